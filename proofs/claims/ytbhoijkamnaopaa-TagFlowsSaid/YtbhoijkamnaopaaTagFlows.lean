/- TagFlows: its walk. -/
import Derived.Test.YtbhoijkamnaopaaTagC
import Derived.Test.YtbhoijkamnaopaaTagAwake
import Derived.Test.YtbhoijkamnaopaaTagFlowR
import Derived.Test.YtbhoijkamnaopaaOpenT
import Derived.StillTailTactics
import Derived.BigRegion
import Derived.LoopN
import Derived.Deep.RegionHeld3
import Derived.Lib.Hide
namespace Go.Proofs.Ytbhoijkamnaopaa.TagFlows
open Go Go.RowKit Go.Proofs.YtbhoijkamnaopaaW.PrintWords Go.Proofs.YtbhoijkamnaopaaW.PrintLast Go.Proofs.YtbhoijkamnaopaaW.PrintMore Go.Proofs.Ytbhoijkamnaopaa.Tag Go.Proofs.Ytbhoijkamnaopaa Go.Sort Go.Proofs.Ytbhoijkamnaopaa.Open Go.Proofs.Ytbhoijkamnaopaa.OpenT
set_option linter.unusedVariables false
set_option linter.unusedSimpArgs false
attribute [local go_sem] Reg.qeOp Reg.qeUpon
set_option maxRecDepth 100000 in
set_option maxHeartbeats 40000000 in
theorem core0 {W : World} {kind a b a0 a1 a2 a3 b0 b1 b2 b3 x0 x1 x2 x3 : Int} (F : ∀ w : World, Calls Try.prog 13 #[.int .i64 kind, .int .u32 a, .int .u32 b, .agg #[.int .u8 a0, .int .u8 a1, .int .u8 a2, .int .u8 a3], .agg #[.int .u8 b0, .int .u8 b1, .int .u8 b2, .int .u8 b3]] w (RetE (.tuple #[.agg #[.int .u8 x0, .int .u8 x1, .int .u8 x2, .int .u8 x3], .int .i64 0]) w)) (G : ∀ w : World, Calls Try.prog 14 #[.int .i64 kind, .int .u32 a, .int .u32 b, .agg #[.int .u8 a0, .int .u8 a1, .int .u8 a2, .int .u8 a3], .agg #[.int .u8 b0, .int .u8 b1, .int .u8 b2, .int .u8 b3]] w (RetE (.tuple #[.agg #[.int .u8 x0, .int .u8 x1, .int .u8 x2, .int .u8 x3], .bool true]) w)) : Calls Try.prog 3 #[.int .i64 kind, .int .u32 a, .int .u32 b, .agg #[.int .u8 a0, .int .u8 a1, .int .u8 a2, .int .u8 a3], .agg #[.int .u8 b0, .int .u8 b1, .int .u8 b2, .int .u8 b3]] W (RetE (.bool true) W) := by
  go_enter Try.func3, Try.ntmps3
  go_wp2_with fail
  refine (awake12 _).mono ?_
  rintro e w1 ⟨rfl, hb⟩
  have G0 : w1.heap[W.heap.size]? = some (.cells #[.int .u8 a0, .int .u8 a1, .int .u8 a2, .int .u8 a3] 24 (0, 0)) := Reg.blk_later (by have h := blk_alloc (blk_new W (.cells #[.int .u8 a0, .int .u8 a1, .int .u8 a2, .int .u8 a3] 24)) (.cells #[.int .u8 b0, .int .u8 b1, .int .u8 b2, .int .u8 b3] 24); simpa using h) hb
  have G1 : w1.heap[W.heap.size + 1]? = some (.cells #[.int .u8 b0, .int .u8 b1, .int .u8 b2, .int .u8 b3] 24 (0, 0)) := Reg.blk_later (by have h := blk_new (W.alloc (.cells #[.int .u8 a0, .int .u8 a1, .int .u8 a2, .int .u8 a3] 24)) (.cells #[.int .u8 b0, .int .u8 b1, .int .u8 b2, .int .u8 b3] 24); simpa using h) hb
  have hE : Ext W w1 := Ext.trans (by (repeat' (first | assumption | exact Ext.refl _ | refine Ext.drewN ?_ | refine Ext.drew ?_ | refine Ext.alloc ?_))) hb
  have HE1 := Lib.hid hE
  clear hE hb
  have c0_0 : w1.cell? ⟨W.heap.size, 0, none⟩ = some (.int .u8 a0) := (blk_cell G0 0).trans rfl
  have a0_0 : ∀ o, (w1.alloc o).cell? ⟨W.heap.size, 0, none⟩ = some (.int .u8 a0) := fun o => (blk_cell (blk_alloc G0 o) 0).trans rfl
  have c0_1 : w1.cell? ⟨W.heap.size, 1, none⟩ = some (.int .u8 a1) := (blk_cell G0 1).trans rfl
  have a0_1 : ∀ o, (w1.alloc o).cell? ⟨W.heap.size, 1, none⟩ = some (.int .u8 a1) := fun o => (blk_cell (blk_alloc G0 o) 1).trans rfl
  have c0_2 : w1.cell? ⟨W.heap.size, 2, none⟩ = some (.int .u8 a2) := (blk_cell G0 2).trans rfl
  have a0_2 : ∀ o, (w1.alloc o).cell? ⟨W.heap.size, 2, none⟩ = some (.int .u8 a2) := fun o => (blk_cell (blk_alloc G0 o) 2).trans rfl
  have c0_3 : w1.cell? ⟨W.heap.size, 3, none⟩ = some (.int .u8 a3) := (blk_cell G0 3).trans rfl
  have a0_3 : ∀ o, (w1.alloc o).cell? ⟨W.heap.size, 3, none⟩ = some (.int .u8 a3) := fun o => (blk_cell (blk_alloc G0 o) 3).trans rfl
  have H0 := Lib.hid G0
  clear G0
  have c1_0 : w1.cell? ⟨W.heap.size + 1, 0, none⟩ = some (.int .u8 b0) := (blk_cell G1 0).trans rfl
  have a1_0 : ∀ o, (w1.alloc o).cell? ⟨W.heap.size + 1, 0, none⟩ = some (.int .u8 b0) := fun o => (blk_cell (blk_alloc G1 o) 0).trans rfl
  have c1_1 : w1.cell? ⟨W.heap.size + 1, 1, none⟩ = some (.int .u8 b1) := (blk_cell G1 1).trans rfl
  have a1_1 : ∀ o, (w1.alloc o).cell? ⟨W.heap.size + 1, 1, none⟩ = some (.int .u8 b1) := fun o => (blk_cell (blk_alloc G1 o) 1).trans rfl
  have c1_2 : w1.cell? ⟨W.heap.size + 1, 2, none⟩ = some (.int .u8 b2) := (blk_cell G1 2).trans rfl
  have a1_2 : ∀ o, (w1.alloc o).cell? ⟨W.heap.size + 1, 2, none⟩ = some (.int .u8 b2) := fun o => (blk_cell (blk_alloc G1 o) 2).trans rfl
  have c1_3 : w1.cell? ⟨W.heap.size + 1, 3, none⟩ = some (.int .u8 b3) := (blk_cell G1 3).trans rfl
  have a1_3 : ∀ o, (w1.alloc o).cell? ⟨W.heap.size + 1, 3, none⟩ = some (.int .u8 b3) := fun o => (blk_cell (blk_alloc G1 o) 3).trans rfl
  have H1 := Lib.hid G1
  clear G1
  go_wp2_with fail
  refine (F _).mono ?_
  rintro e w2 ⟨rfl, hb⟩
  clear c0_0 a0_0 c0_1 a0_1 c0_2 a0_2 c0_3 a0_3 c1_0 a1_0 c1_1 a1_1 c1_2 a1_2 c1_3 a1_3
  have G0 := Reg.blk_later H0.out hb
  have G1 := Reg.blk_later H1.out hb
  have hE : Ext W w2 := Ext.trans (by have h := HE1.out; (repeat' (first | assumption | exact Ext.refl _ | refine Ext.drewN ?_ | refine Ext.drew ?_ | refine Ext.alloc ?_))) hb
  have HE2 := Lib.hid hE
  clear hE hb HE1 H0 H1
  have c0_0 : w2.cell? ⟨W.heap.size, 0, none⟩ = some (.int .u8 a0) := (blk_cell G0 0).trans rfl
  have a0_0 : ∀ o, (w2.alloc o).cell? ⟨W.heap.size, 0, none⟩ = some (.int .u8 a0) := fun o => (blk_cell (blk_alloc G0 o) 0).trans rfl
  have c0_1 : w2.cell? ⟨W.heap.size, 1, none⟩ = some (.int .u8 a1) := (blk_cell G0 1).trans rfl
  have a0_1 : ∀ o, (w2.alloc o).cell? ⟨W.heap.size, 1, none⟩ = some (.int .u8 a1) := fun o => (blk_cell (blk_alloc G0 o) 1).trans rfl
  have c0_2 : w2.cell? ⟨W.heap.size, 2, none⟩ = some (.int .u8 a2) := (blk_cell G0 2).trans rfl
  have a0_2 : ∀ o, (w2.alloc o).cell? ⟨W.heap.size, 2, none⟩ = some (.int .u8 a2) := fun o => (blk_cell (blk_alloc G0 o) 2).trans rfl
  have c0_3 : w2.cell? ⟨W.heap.size, 3, none⟩ = some (.int .u8 a3) := (blk_cell G0 3).trans rfl
  have a0_3 : ∀ o, (w2.alloc o).cell? ⟨W.heap.size, 3, none⟩ = some (.int .u8 a3) := fun o => (blk_cell (blk_alloc G0 o) 3).trans rfl
  have H0 := Lib.hid G0
  clear G0
  have c1_0 : w2.cell? ⟨W.heap.size + 1, 0, none⟩ = some (.int .u8 b0) := (blk_cell G1 0).trans rfl
  have a1_0 : ∀ o, (w2.alloc o).cell? ⟨W.heap.size + 1, 0, none⟩ = some (.int .u8 b0) := fun o => (blk_cell (blk_alloc G1 o) 0).trans rfl
  have c1_1 : w2.cell? ⟨W.heap.size + 1, 1, none⟩ = some (.int .u8 b1) := (blk_cell G1 1).trans rfl
  have a1_1 : ∀ o, (w2.alloc o).cell? ⟨W.heap.size + 1, 1, none⟩ = some (.int .u8 b1) := fun o => (blk_cell (blk_alloc G1 o) 1).trans rfl
  have c1_2 : w2.cell? ⟨W.heap.size + 1, 2, none⟩ = some (.int .u8 b2) := (blk_cell G1 2).trans rfl
  have a1_2 : ∀ o, (w2.alloc o).cell? ⟨W.heap.size + 1, 2, none⟩ = some (.int .u8 b2) := fun o => (blk_cell (blk_alloc G1 o) 2).trans rfl
  have c1_3 : w2.cell? ⟨W.heap.size + 1, 3, none⟩ = some (.int .u8 b3) := (blk_cell G1 3).trans rfl
  have a1_3 : ∀ o, (w2.alloc o).cell? ⟨W.heap.size + 1, 3, none⟩ = some (.int .u8 b3) := fun o => (blk_cell (blk_alloc G1 o) 3).trans rfl
  have H1 := Lib.hid G1
  clear G1
  go_wp2_with fail
  refine (G _).mono ?_
  rintro e w3 ⟨rfl, hb⟩
  clear c0_0 a0_0 c0_1 a0_1 c0_2 a0_2 c0_3 a0_3 c1_0 a1_0 c1_1 a1_1 c1_2 a1_2 c1_3 a1_3
  have G0 := Reg.blk_later (blk_alloc H0.out _) hb
  have G1 := Reg.blk_later (blk_alloc H1.out _) hb
  have G2 : w3.heap[w2.heap.size]? = some (.cells #[.int .u8 x0, .int .u8 x1, .int .u8 x2, .int .u8 x3] 24 (0, 0)) := Reg.blk_later (blk_new _ _) hb
  have hE : Ext W w3 := Ext.trans (by have h := HE2.out; (repeat' (first | assumption | exact Ext.refl _ | refine Ext.drewN ?_ | refine Ext.drew ?_ | refine Ext.alloc ?_))) hb
  have HE3 := Lib.hid hE
  clear hE hb HE2 H0 H1
  have c0_0 : w3.cell? ⟨W.heap.size, 0, none⟩ = some (.int .u8 a0) := (blk_cell G0 0).trans rfl
  have a0_0 : ∀ o, (w3.alloc o).cell? ⟨W.heap.size, 0, none⟩ = some (.int .u8 a0) := fun o => (blk_cell (blk_alloc G0 o) 0).trans rfl
  have c0_1 : w3.cell? ⟨W.heap.size, 1, none⟩ = some (.int .u8 a1) := (blk_cell G0 1).trans rfl
  have a0_1 : ∀ o, (w3.alloc o).cell? ⟨W.heap.size, 1, none⟩ = some (.int .u8 a1) := fun o => (blk_cell (blk_alloc G0 o) 1).trans rfl
  have c0_2 : w3.cell? ⟨W.heap.size, 2, none⟩ = some (.int .u8 a2) := (blk_cell G0 2).trans rfl
  have a0_2 : ∀ o, (w3.alloc o).cell? ⟨W.heap.size, 2, none⟩ = some (.int .u8 a2) := fun o => (blk_cell (blk_alloc G0 o) 2).trans rfl
  have c0_3 : w3.cell? ⟨W.heap.size, 3, none⟩ = some (.int .u8 a3) := (blk_cell G0 3).trans rfl
  have a0_3 : ∀ o, (w3.alloc o).cell? ⟨W.heap.size, 3, none⟩ = some (.int .u8 a3) := fun o => (blk_cell (blk_alloc G0 o) 3).trans rfl
  have H0 := Lib.hid G0
  clear G0
  have c1_0 : w3.cell? ⟨W.heap.size + 1, 0, none⟩ = some (.int .u8 b0) := (blk_cell G1 0).trans rfl
  have a1_0 : ∀ o, (w3.alloc o).cell? ⟨W.heap.size + 1, 0, none⟩ = some (.int .u8 b0) := fun o => (blk_cell (blk_alloc G1 o) 0).trans rfl
  have c1_1 : w3.cell? ⟨W.heap.size + 1, 1, none⟩ = some (.int .u8 b1) := (blk_cell G1 1).trans rfl
  have a1_1 : ∀ o, (w3.alloc o).cell? ⟨W.heap.size + 1, 1, none⟩ = some (.int .u8 b1) := fun o => (blk_cell (blk_alloc G1 o) 1).trans rfl
  have c1_2 : w3.cell? ⟨W.heap.size + 1, 2, none⟩ = some (.int .u8 b2) := (blk_cell G1 2).trans rfl
  have a1_2 : ∀ o, (w3.alloc o).cell? ⟨W.heap.size + 1, 2, none⟩ = some (.int .u8 b2) := fun o => (blk_cell (blk_alloc G1 o) 2).trans rfl
  have c1_3 : w3.cell? ⟨W.heap.size + 1, 3, none⟩ = some (.int .u8 b3) := (blk_cell G1 3).trans rfl
  have a1_3 : ∀ o, (w3.alloc o).cell? ⟨W.heap.size + 1, 3, none⟩ = some (.int .u8 b3) := fun o => (blk_cell (blk_alloc G1 o) 3).trans rfl
  have H1 := Lib.hid G1
  clear G1
  have c2_0 : w3.cell? ⟨w2.heap.size, 0, none⟩ = some (.int .u8 x0) := (blk_cell G2 0).trans rfl
  have a2_0 : ∀ o, (w3.alloc o).cell? ⟨w2.heap.size, 0, none⟩ = some (.int .u8 x0) := fun o => (blk_cell (blk_alloc G2 o) 0).trans rfl
  have c2_1 : w3.cell? ⟨w2.heap.size, 1, none⟩ = some (.int .u8 x1) := (blk_cell G2 1).trans rfl
  have a2_1 : ∀ o, (w3.alloc o).cell? ⟨w2.heap.size, 1, none⟩ = some (.int .u8 x1) := fun o => (blk_cell (blk_alloc G2 o) 1).trans rfl
  have c2_2 : w3.cell? ⟨w2.heap.size, 2, none⟩ = some (.int .u8 x2) := (blk_cell G2 2).trans rfl
  have a2_2 : ∀ o, (w3.alloc o).cell? ⟨w2.heap.size, 2, none⟩ = some (.int .u8 x2) := fun o => (blk_cell (blk_alloc G2 o) 2).trans rfl
  have c2_3 : w3.cell? ⟨w2.heap.size, 3, none⟩ = some (.int .u8 x3) := (blk_cell G2 3).trans rfl
  have a2_3 : ∀ o, (w3.alloc o).cell? ⟨w2.heap.size, 3, none⟩ = some (.int .u8 x3) := fun o => (blk_cell (blk_alloc G2 o) 3).trans rfl
  have H2 := Lib.hid G2
  clear G2
  go_wp2
  have hE := HE3.out
  go_ret
  exact ⟨rfl, by (repeat' (first | assumption | exact Ext.refl _ | refine Ext.drewN ?_ | refine Ext.drew ?_ | refine Ext.alloc ?_))⟩
set_option maxRecDepth 100000 in
set_option maxHeartbeats 40000000 in
theorem core1 {W : World} {kind a b a0 a1 a2 a3 b0 b1 b2 b3 x0 x1 x2 x3 : Int} (F : ∀ w : World, Calls Try.prog 13 #[.int .i64 kind, .int .u32 a, .int .u32 b, .agg #[.int .u8 a0, .int .u8 a1, .int .u8 a2, .int .u8 a3], .agg #[.int .u8 b0, .int .u8 b1, .int .u8 b2, .int .u8 b3]] w (RetE (.tuple #[.agg #[.int .u8 x0, .int .u8 x1, .int .u8 x2, .int .u8 x3], .int .i64 1]) w)) (G : ∀ w : World, Calls Try.prog 14 #[.int .i64 kind, .int .u32 a, .int .u32 b, .agg #[.int .u8 a0, .int .u8 a1, .int .u8 a2, .int .u8 a3], .agg #[.int .u8 b0, .int .u8 b1, .int .u8 b2, .int .u8 b3]] w (RetE (.tuple #[.agg #[.int .u8 x0, .int .u8 x1, .int .u8 x2, .int .u8 x3], .bool false]) w)) : Calls Try.prog 3 #[.int .i64 kind, .int .u32 a, .int .u32 b, .agg #[.int .u8 a0, .int .u8 a1, .int .u8 a2, .int .u8 a3], .agg #[.int .u8 b0, .int .u8 b1, .int .u8 b2, .int .u8 b3]] W (RetE (.bool true) W) := by
  go_enter Try.func3, Try.ntmps3
  go_wp2_with fail
  refine (awake12 _).mono ?_
  rintro e w1 ⟨rfl, hb⟩
  have G0 : w1.heap[W.heap.size]? = some (.cells #[.int .u8 a0, .int .u8 a1, .int .u8 a2, .int .u8 a3] 24 (0, 0)) := Reg.blk_later (by have h := blk_alloc (blk_new W (.cells #[.int .u8 a0, .int .u8 a1, .int .u8 a2, .int .u8 a3] 24)) (.cells #[.int .u8 b0, .int .u8 b1, .int .u8 b2, .int .u8 b3] 24); simpa using h) hb
  have G1 : w1.heap[W.heap.size + 1]? = some (.cells #[.int .u8 b0, .int .u8 b1, .int .u8 b2, .int .u8 b3] 24 (0, 0)) := Reg.blk_later (by have h := blk_new (W.alloc (.cells #[.int .u8 a0, .int .u8 a1, .int .u8 a2, .int .u8 a3] 24)) (.cells #[.int .u8 b0, .int .u8 b1, .int .u8 b2, .int .u8 b3] 24); simpa using h) hb
  have hE : Ext W w1 := Ext.trans (by (repeat' (first | assumption | exact Ext.refl _ | refine Ext.drewN ?_ | refine Ext.drew ?_ | refine Ext.alloc ?_))) hb
  have HE1 := Lib.hid hE
  clear hE hb
  have c0_0 : w1.cell? ⟨W.heap.size, 0, none⟩ = some (.int .u8 a0) := (blk_cell G0 0).trans rfl
  have a0_0 : ∀ o, (w1.alloc o).cell? ⟨W.heap.size, 0, none⟩ = some (.int .u8 a0) := fun o => (blk_cell (blk_alloc G0 o) 0).trans rfl
  have c0_1 : w1.cell? ⟨W.heap.size, 1, none⟩ = some (.int .u8 a1) := (blk_cell G0 1).trans rfl
  have a0_1 : ∀ o, (w1.alloc o).cell? ⟨W.heap.size, 1, none⟩ = some (.int .u8 a1) := fun o => (blk_cell (blk_alloc G0 o) 1).trans rfl
  have c0_2 : w1.cell? ⟨W.heap.size, 2, none⟩ = some (.int .u8 a2) := (blk_cell G0 2).trans rfl
  have a0_2 : ∀ o, (w1.alloc o).cell? ⟨W.heap.size, 2, none⟩ = some (.int .u8 a2) := fun o => (blk_cell (blk_alloc G0 o) 2).trans rfl
  have c0_3 : w1.cell? ⟨W.heap.size, 3, none⟩ = some (.int .u8 a3) := (blk_cell G0 3).trans rfl
  have a0_3 : ∀ o, (w1.alloc o).cell? ⟨W.heap.size, 3, none⟩ = some (.int .u8 a3) := fun o => (blk_cell (blk_alloc G0 o) 3).trans rfl
  have H0 := Lib.hid G0
  clear G0
  have c1_0 : w1.cell? ⟨W.heap.size + 1, 0, none⟩ = some (.int .u8 b0) := (blk_cell G1 0).trans rfl
  have a1_0 : ∀ o, (w1.alloc o).cell? ⟨W.heap.size + 1, 0, none⟩ = some (.int .u8 b0) := fun o => (blk_cell (blk_alloc G1 o) 0).trans rfl
  have c1_1 : w1.cell? ⟨W.heap.size + 1, 1, none⟩ = some (.int .u8 b1) := (blk_cell G1 1).trans rfl
  have a1_1 : ∀ o, (w1.alloc o).cell? ⟨W.heap.size + 1, 1, none⟩ = some (.int .u8 b1) := fun o => (blk_cell (blk_alloc G1 o) 1).trans rfl
  have c1_2 : w1.cell? ⟨W.heap.size + 1, 2, none⟩ = some (.int .u8 b2) := (blk_cell G1 2).trans rfl
  have a1_2 : ∀ o, (w1.alloc o).cell? ⟨W.heap.size + 1, 2, none⟩ = some (.int .u8 b2) := fun o => (blk_cell (blk_alloc G1 o) 2).trans rfl
  have c1_3 : w1.cell? ⟨W.heap.size + 1, 3, none⟩ = some (.int .u8 b3) := (blk_cell G1 3).trans rfl
  have a1_3 : ∀ o, (w1.alloc o).cell? ⟨W.heap.size + 1, 3, none⟩ = some (.int .u8 b3) := fun o => (blk_cell (blk_alloc G1 o) 3).trans rfl
  have H1 := Lib.hid G1
  clear G1
  go_wp2_with fail
  refine (F _).mono ?_
  rintro e w2 ⟨rfl, hb⟩
  clear c0_0 a0_0 c0_1 a0_1 c0_2 a0_2 c0_3 a0_3 c1_0 a1_0 c1_1 a1_1 c1_2 a1_2 c1_3 a1_3
  have G0 := Reg.blk_later H0.out hb
  have G1 := Reg.blk_later H1.out hb
  have hE : Ext W w2 := Ext.trans (by have h := HE1.out; (repeat' (first | assumption | exact Ext.refl _ | refine Ext.drewN ?_ | refine Ext.drew ?_ | refine Ext.alloc ?_))) hb
  have HE2 := Lib.hid hE
  clear hE hb HE1 H0 H1
  have c0_0 : w2.cell? ⟨W.heap.size, 0, none⟩ = some (.int .u8 a0) := (blk_cell G0 0).trans rfl
  have a0_0 : ∀ o, (w2.alloc o).cell? ⟨W.heap.size, 0, none⟩ = some (.int .u8 a0) := fun o => (blk_cell (blk_alloc G0 o) 0).trans rfl
  have c0_1 : w2.cell? ⟨W.heap.size, 1, none⟩ = some (.int .u8 a1) := (blk_cell G0 1).trans rfl
  have a0_1 : ∀ o, (w2.alloc o).cell? ⟨W.heap.size, 1, none⟩ = some (.int .u8 a1) := fun o => (blk_cell (blk_alloc G0 o) 1).trans rfl
  have c0_2 : w2.cell? ⟨W.heap.size, 2, none⟩ = some (.int .u8 a2) := (blk_cell G0 2).trans rfl
  have a0_2 : ∀ o, (w2.alloc o).cell? ⟨W.heap.size, 2, none⟩ = some (.int .u8 a2) := fun o => (blk_cell (blk_alloc G0 o) 2).trans rfl
  have c0_3 : w2.cell? ⟨W.heap.size, 3, none⟩ = some (.int .u8 a3) := (blk_cell G0 3).trans rfl
  have a0_3 : ∀ o, (w2.alloc o).cell? ⟨W.heap.size, 3, none⟩ = some (.int .u8 a3) := fun o => (blk_cell (blk_alloc G0 o) 3).trans rfl
  have H0 := Lib.hid G0
  clear G0
  have c1_0 : w2.cell? ⟨W.heap.size + 1, 0, none⟩ = some (.int .u8 b0) := (blk_cell G1 0).trans rfl
  have a1_0 : ∀ o, (w2.alloc o).cell? ⟨W.heap.size + 1, 0, none⟩ = some (.int .u8 b0) := fun o => (blk_cell (blk_alloc G1 o) 0).trans rfl
  have c1_1 : w2.cell? ⟨W.heap.size + 1, 1, none⟩ = some (.int .u8 b1) := (blk_cell G1 1).trans rfl
  have a1_1 : ∀ o, (w2.alloc o).cell? ⟨W.heap.size + 1, 1, none⟩ = some (.int .u8 b1) := fun o => (blk_cell (blk_alloc G1 o) 1).trans rfl
  have c1_2 : w2.cell? ⟨W.heap.size + 1, 2, none⟩ = some (.int .u8 b2) := (blk_cell G1 2).trans rfl
  have a1_2 : ∀ o, (w2.alloc o).cell? ⟨W.heap.size + 1, 2, none⟩ = some (.int .u8 b2) := fun o => (blk_cell (blk_alloc G1 o) 2).trans rfl
  have c1_3 : w2.cell? ⟨W.heap.size + 1, 3, none⟩ = some (.int .u8 b3) := (blk_cell G1 3).trans rfl
  have a1_3 : ∀ o, (w2.alloc o).cell? ⟨W.heap.size + 1, 3, none⟩ = some (.int .u8 b3) := fun o => (blk_cell (blk_alloc G1 o) 3).trans rfl
  have H1 := Lib.hid G1
  clear G1
  go_wp2_with fail
  refine (G _).mono ?_
  rintro e w3 ⟨rfl, hb⟩
  clear c0_0 a0_0 c0_1 a0_1 c0_2 a0_2 c0_3 a0_3 c1_0 a1_0 c1_1 a1_1 c1_2 a1_2 c1_3 a1_3
  have G0 := Reg.blk_later (blk_alloc H0.out _) hb
  have G1 := Reg.blk_later (blk_alloc H1.out _) hb
  have G2 : w3.heap[w2.heap.size]? = some (.cells #[.int .u8 x0, .int .u8 x1, .int .u8 x2, .int .u8 x3] 24 (0, 0)) := Reg.blk_later (blk_new _ _) hb
  have hE : Ext W w3 := Ext.trans (by have h := HE2.out; (repeat' (first | assumption | exact Ext.refl _ | refine Ext.drewN ?_ | refine Ext.drew ?_ | refine Ext.alloc ?_))) hb
  have HE3 := Lib.hid hE
  clear hE hb HE2 H0 H1
  have c0_0 : w3.cell? ⟨W.heap.size, 0, none⟩ = some (.int .u8 a0) := (blk_cell G0 0).trans rfl
  have a0_0 : ∀ o, (w3.alloc o).cell? ⟨W.heap.size, 0, none⟩ = some (.int .u8 a0) := fun o => (blk_cell (blk_alloc G0 o) 0).trans rfl
  have c0_1 : w3.cell? ⟨W.heap.size, 1, none⟩ = some (.int .u8 a1) := (blk_cell G0 1).trans rfl
  have a0_1 : ∀ o, (w3.alloc o).cell? ⟨W.heap.size, 1, none⟩ = some (.int .u8 a1) := fun o => (blk_cell (blk_alloc G0 o) 1).trans rfl
  have c0_2 : w3.cell? ⟨W.heap.size, 2, none⟩ = some (.int .u8 a2) := (blk_cell G0 2).trans rfl
  have a0_2 : ∀ o, (w3.alloc o).cell? ⟨W.heap.size, 2, none⟩ = some (.int .u8 a2) := fun o => (blk_cell (blk_alloc G0 o) 2).trans rfl
  have c0_3 : w3.cell? ⟨W.heap.size, 3, none⟩ = some (.int .u8 a3) := (blk_cell G0 3).trans rfl
  have a0_3 : ∀ o, (w3.alloc o).cell? ⟨W.heap.size, 3, none⟩ = some (.int .u8 a3) := fun o => (blk_cell (blk_alloc G0 o) 3).trans rfl
  have H0 := Lib.hid G0
  clear G0
  have c1_0 : w3.cell? ⟨W.heap.size + 1, 0, none⟩ = some (.int .u8 b0) := (blk_cell G1 0).trans rfl
  have a1_0 : ∀ o, (w3.alloc o).cell? ⟨W.heap.size + 1, 0, none⟩ = some (.int .u8 b0) := fun o => (blk_cell (blk_alloc G1 o) 0).trans rfl
  have c1_1 : w3.cell? ⟨W.heap.size + 1, 1, none⟩ = some (.int .u8 b1) := (blk_cell G1 1).trans rfl
  have a1_1 : ∀ o, (w3.alloc o).cell? ⟨W.heap.size + 1, 1, none⟩ = some (.int .u8 b1) := fun o => (blk_cell (blk_alloc G1 o) 1).trans rfl
  have c1_2 : w3.cell? ⟨W.heap.size + 1, 2, none⟩ = some (.int .u8 b2) := (blk_cell G1 2).trans rfl
  have a1_2 : ∀ o, (w3.alloc o).cell? ⟨W.heap.size + 1, 2, none⟩ = some (.int .u8 b2) := fun o => (blk_cell (blk_alloc G1 o) 2).trans rfl
  have c1_3 : w3.cell? ⟨W.heap.size + 1, 3, none⟩ = some (.int .u8 b3) := (blk_cell G1 3).trans rfl
  have a1_3 : ∀ o, (w3.alloc o).cell? ⟨W.heap.size + 1, 3, none⟩ = some (.int .u8 b3) := fun o => (blk_cell (blk_alloc G1 o) 3).trans rfl
  have H1 := Lib.hid G1
  clear G1
  have c2_0 : w3.cell? ⟨w2.heap.size, 0, none⟩ = some (.int .u8 x0) := (blk_cell G2 0).trans rfl
  have a2_0 : ∀ o, (w3.alloc o).cell? ⟨w2.heap.size, 0, none⟩ = some (.int .u8 x0) := fun o => (blk_cell (blk_alloc G2 o) 0).trans rfl
  have c2_1 : w3.cell? ⟨w2.heap.size, 1, none⟩ = some (.int .u8 x1) := (blk_cell G2 1).trans rfl
  have a2_1 : ∀ o, (w3.alloc o).cell? ⟨w2.heap.size, 1, none⟩ = some (.int .u8 x1) := fun o => (blk_cell (blk_alloc G2 o) 1).trans rfl
  have c2_2 : w3.cell? ⟨w2.heap.size, 2, none⟩ = some (.int .u8 x2) := (blk_cell G2 2).trans rfl
  have a2_2 : ∀ o, (w3.alloc o).cell? ⟨w2.heap.size, 2, none⟩ = some (.int .u8 x2) := fun o => (blk_cell (blk_alloc G2 o) 2).trans rfl
  have c2_3 : w3.cell? ⟨w2.heap.size, 3, none⟩ = some (.int .u8 x3) := (blk_cell G2 3).trans rfl
  have a2_3 : ∀ o, (w3.alloc o).cell? ⟨w2.heap.size, 3, none⟩ = some (.int .u8 x3) := fun o => (blk_cell (blk_alloc G2 o) 3).trans rfl
  have H2 := Lib.hid G2
  clear G2
  go_wp2
  have hE := HE3.out
  go_ret
  exact ⟨rfl, by (repeat' (first | assumption | exact Ext.refl _ | refine Ext.drewN ?_ | refine Ext.drew ?_ | refine Ext.alloc ?_))⟩
theorem range8 {x : Int} (h : (Lit.int .u8 x).wf = true) : 0 ≤ x ∧ x < 256 := by
  have := bounds_u8 h; omega
theorem exT {t : T4} (h : wf24 t) : ∃ f : TF, t = ofF f := exF (range8 h.1) (range8 h.2.1) (range8 h.2.2.1) (range8 h.2.2.2)
theorem range32 {x : Int} (h : (Lit.int .u32 x).wf = true) : 0 ≤ x ∧ x < 4294967296 := by
  have := bounds_u32 h; omega
theorem walk (W : World) (x0 : Int) (wx0 : (Lit.int .i64 x0).wf = true) (x1 : Int) (wx1 : (Lit.int .u32 x1).wf = true) (x2 : Int) (wx2 : (Lit.int .u32 x2).wf = true) (x3 : (Int × Int × Int × Int)) (wx3 : wf24 x3) (x4 : (Int × Int × Int × Int)) (wx4 : wf24 x4) :
    Calls Try.prog 3 #[.int .i64 x0, .int .u32 x1, .int .u32 x2, .agg #[.int .u8 x3.1, .int .u8 x3.2.1, .int .u8 x3.2.2.1, .int .u8 x3.2.2.2], .agg #[.int .u8 x4.1, .int .u8 x4.2.1, .int .u8 x4.2.2.1, .int .u8 x4.2.2.2]] W fun e w' => e = .returned (.bool true) ∧ Below W.heap.size W w' := by
  obtain ⟨f, rfl⟩ := exT wx3
  obtain ⟨g, rfl⟩ := exT wx4
  obtain ⟨ha, ha'⟩ := range32 wx1
  obtain ⟨hb, hb'⟩ := range32 wx2
  have F := flowC x0 x1 x2 f g ha ha' hb hb'
  have G := flowR x0 x1 x2 f g ha ha' hb hb'
  by_cases hk : 0 ≤ x0 ∧ x0 ≤ 17
  · have he : errK x0 = 0 := if_pos hk
    rw [he] at F G
    exact core0 (x0 := iv (flowF x0 x1 x2 f g 0)) (x1 := iv (flowF x0 x1 x2 f g 1)) (x2 := iv (flowF x0 x1 x2 f g 2)) (x3 := iv (flowF x0 x1 x2 f g 3)) F G
  · have he : errK x0 = 1 := if_neg hk
    rw [he] at F G
    exact core1 (x0 := iv (flowF x0 x1 x2 f g 0)) (x1 := iv (flowF x0 x1 x2 f g 1)) (x2 := iv (flowF x0 x1 x2 f g 2)) (x3 := iv (flowF x0 x1 x2 f g 3)) F G
end Go.Proofs.Ytbhoijkamnaopaa.TagFlows
