/- TagKnown: its walk. -/
import Derived.Test.YtbhoijkamnaopaaTagC
import Derived.Test.YtbhoijkamnaopaaTagAwake
import Derived.Test.YtbhoijkamnaopaaTagFlow
import Derived.Test.YtbhoijkamnaopaaOpenT
import Derived.StillTailTactics
import Derived.BigRegion
import Derived.LoopN
import Derived.Deep.RegionHeld3
import Derived.Lib.Hide
namespace Go.Proofs.Ytbhoijkamnaopaa.TagKnown
open Go Go.RowKit Go.Proofs.YtbhoijkamnaopaaW.PrintWords Go.Proofs.YtbhoijkamnaopaaW.PrintLast Go.Proofs.YtbhoijkamnaopaaW.PrintMore Go.Proofs.Ytbhoijkamnaopaa.Tag Go.Proofs.Ytbhoijkamnaopaa Go.Sort Go.Proofs.Ytbhoijkamnaopaa.Open Go.Proofs.Ytbhoijkamnaopaa.OpenT
set_option linter.unusedVariables false
set_option linter.unusedSimpArgs false
attribute [local go_sem] Reg.qeOp Reg.qeUpon
set_option maxRecDepth 100000 in
set_option maxHeartbeats 40000000 in
theorem core {W : World} (C0 : ∀ w : World, Calls Try.prog 13 #[.int .i64 18, .int .u32 0, .int .u32 0, .agg #[.int .u8 0, .int .u8 0, .int .u8 0, .int .u8 0], .agg #[.int .u8 0, .int .u8 0, .int .u8 0, .int .u8 0]] w (RetE (.tuple #[.agg #[.int .u8 0, .int .u8 0, .int .u8 0, .int .u8 0], .int .i64 1]) w)) (C1 : ∀ w : World, Calls Try.prog 13 #[.int .i64 9, .int .u32 4278255360, .int .u32 305419896, .agg #[.int .u8 0, .int .u8 0, .int .u8 0, .int .u8 0], .agg #[.int .u8 1, .int .u8 2, .int .u8 4, .int .u8 8]] w (RetE (.tuple #[.agg #[.int .u8 0, .int .u8 2, .int .u8 0, .int .u8 8], .int .i64 0]) w)) (C2 : ∀ w : World, Calls Try.prog 13 #[.int .i64 2, .int .u32 0, .int .u32 4, .agg #[.int .u8 1, .int .u8 2, .int .u8 0, .int .u8 0], .agg #[.int .u8 0, .int .u8 0, .int .u8 0, .int .u8 0]] w (RetE (.tuple #[.agg #[.int .u8 1, .int .u8 3, .int .u8 2, .int .u8 0], .int .i64 0]) w)) (C3 : ∀ w : World, Calls Try.prog 13 #[.int .i64 7, .int .u32 0, .int .u32 12, .agg #[.int .u8 1, .int .u8 0, .int .u8 0, .int .u8 8], .agg #[.int .u8 0, .int .u8 0, .int .u8 0, .int .u8 0]] w (RetE (.tuple #[.agg #[.int .u8 0, .int .u8 8, .int .u8 8, .int .u8 8], .int .i64 0]) w)) (C4 : ∀ w : World, Calls Try.prog 13 #[.int .i64 6, .int .u32 0, .int .u32 1, .agg #[.int .u8 1, .int .u8 2, .int .u8 4, .int .u8 8], .agg #[.int .u8 16, .int .u8 0, .int .u8 0, .int .u8 0]] w (RetE (.tuple #[.agg #[.int .u8 31, .int .u8 31, .int .u8 31, .int .u8 31], .int .i64 0]) w)) (C5 : ∀ w : World, Calls Try.prog 13 #[.int .i64 3, .int .u32 0, .int .u32 0, .agg #[.int .u8 0, .int .u8 0, .int .u8 0, .int .u8 1], .agg #[.int .u8 2, .int .u8 0, .int .u8 0, .int .u8 0]] w (RetE (.tuple #[.agg #[.int .u8 3, .int .u8 0, .int .u8 0, .int .u8 0], .int .i64 0]) w)) (D0 : ∀ w : World, Calls Try.prog 20 #[.int .u8 31] w (RetE (.agg #[.int .u8 31, .int .u8 31, .int .u8 31, .int .u8 31]) w)) (D1 : ∀ w : World, Calls Try.prog 21 #[.agg #[.int .u8 1, .int .u8 2, .int .u8 4, .int .u8 8], .int .i64 1, .bool true] w (RetE (.agg #[.int .u8 1, .int .u8 1, .int .u8 1, .int .u8 1]) w)) (D2 : ∀ w : World, Calls Try.prog 21 #[.agg #[.int .u8 1, .int .u8 2, .int .u8 4, .int .u8 8], .int .i64 2, .bool false] w (RetE (.agg #[.int .u8 1, .int .u8 2, .int .u8 0, .int .u8 0]) w)) (D3 : ∀ w : World, Calls Try.prog 19 #[.agg #[.int .u8 0, .int .u8 1, .int .u8 0, .int .u8 2]] w (RetE (.agg #[.int .u8 0, .int .u8 1, .int .u8 1, .int .u8 3]) w)) : Calls Try.prog 9 #[] W (RetE (.bool true) W) := by
  go_enter Try.func9, Try.ntmps9
  go_wp2_with fail
  refine (awake12 _).mono ?_
  rintro e w1 ⟨rfl, hb⟩
  have hE : Ext W w1 := Ext.trans (by (repeat' (first | assumption | exact Ext.refl _ | refine Ext.drewN ?_ | refine Ext.drew ?_ | refine Ext.alloc ?_))) hb
  have HE1 := Lib.hid hE
  clear hE hb
  go_wp2_with fail
  refine (C0 _).mono ?_
  rintro e w2 ⟨rfl, hb⟩
  have hE : Ext W w2 := Ext.trans (by have h := HE1.out; (repeat' (first | assumption | exact Ext.refl _ | refine Ext.drewN ?_ | refine Ext.drew ?_ | refine Ext.alloc ?_))) hb
  have HE2 := Lib.hid hE
  clear hE hb HE1 
  go_wp2_with fail
  refine (C1 _).mono ?_
  rintro e w3 ⟨rfl, hb⟩
  have G0 : w3.heap[w2.heap.size]? = some (.cells #[.int .u8 0, .int .u8 0, .int .u8 0, .int .u8 0] 24 (0, 0)) := Reg.blk_later (blk_new _ _) hb
  have hE : Ext W w3 := Ext.trans (by have h := HE2.out; (repeat' (first | assumption | exact Ext.refl _ | refine Ext.drewN ?_ | refine Ext.drew ?_ | refine Ext.alloc ?_))) hb
  have HE3 := Lib.hid hE
  clear hE hb HE2 
  have c0_0 : w3.cell? ⟨w2.heap.size, 0, none⟩ = some (.int .u8 0) := (blk_cell G0 0).trans rfl
  have a0_0 : ∀ o, (w3.alloc o).cell? ⟨w2.heap.size, 0, none⟩ = some (.int .u8 0) := fun o => (blk_cell (blk_alloc G0 o) 0).trans rfl
  have c0_1 : w3.cell? ⟨w2.heap.size, 1, none⟩ = some (.int .u8 0) := (blk_cell G0 1).trans rfl
  have a0_1 : ∀ o, (w3.alloc o).cell? ⟨w2.heap.size, 1, none⟩ = some (.int .u8 0) := fun o => (blk_cell (blk_alloc G0 o) 1).trans rfl
  have c0_2 : w3.cell? ⟨w2.heap.size, 2, none⟩ = some (.int .u8 0) := (blk_cell G0 2).trans rfl
  have a0_2 : ∀ o, (w3.alloc o).cell? ⟨w2.heap.size, 2, none⟩ = some (.int .u8 0) := fun o => (blk_cell (blk_alloc G0 o) 2).trans rfl
  have c0_3 : w3.cell? ⟨w2.heap.size, 3, none⟩ = some (.int .u8 0) := (blk_cell G0 3).trans rfl
  have a0_3 : ∀ o, (w3.alloc o).cell? ⟨w2.heap.size, 3, none⟩ = some (.int .u8 0) := fun o => (blk_cell (blk_alloc G0 o) 3).trans rfl
  have H0 := Lib.hid G0
  clear G0
  go_wp2_with fail
  refine (C2 _).mono ?_
  rintro e w4 ⟨rfl, hb⟩
  clear c0_0 a0_0 c0_1 a0_1 c0_2 a0_2 c0_3 a0_3
  have G0 := Reg.blk_later (blk_alloc H0.out _) hb
  have G1 : w4.heap[w3.heap.size]? = some (.cells #[.int .u8 0, .int .u8 2, .int .u8 0, .int .u8 8] 24 (0, 0)) := Reg.blk_later (blk_new _ _) hb
  have hE : Ext W w4 := Ext.trans (by have h := HE3.out; (repeat' (first | assumption | exact Ext.refl _ | refine Ext.drewN ?_ | refine Ext.drew ?_ | refine Ext.alloc ?_))) hb
  have HE4 := Lib.hid hE
  clear hE hb HE3 H0
  have c0_0 : w4.cell? ⟨w2.heap.size, 0, none⟩ = some (.int .u8 0) := (blk_cell G0 0).trans rfl
  have a0_0 : ∀ o, (w4.alloc o).cell? ⟨w2.heap.size, 0, none⟩ = some (.int .u8 0) := fun o => (blk_cell (blk_alloc G0 o) 0).trans rfl
  have c0_1 : w4.cell? ⟨w2.heap.size, 1, none⟩ = some (.int .u8 0) := (blk_cell G0 1).trans rfl
  have a0_1 : ∀ o, (w4.alloc o).cell? ⟨w2.heap.size, 1, none⟩ = some (.int .u8 0) := fun o => (blk_cell (blk_alloc G0 o) 1).trans rfl
  have c0_2 : w4.cell? ⟨w2.heap.size, 2, none⟩ = some (.int .u8 0) := (blk_cell G0 2).trans rfl
  have a0_2 : ∀ o, (w4.alloc o).cell? ⟨w2.heap.size, 2, none⟩ = some (.int .u8 0) := fun o => (blk_cell (blk_alloc G0 o) 2).trans rfl
  have c0_3 : w4.cell? ⟨w2.heap.size, 3, none⟩ = some (.int .u8 0) := (blk_cell G0 3).trans rfl
  have a0_3 : ∀ o, (w4.alloc o).cell? ⟨w2.heap.size, 3, none⟩ = some (.int .u8 0) := fun o => (blk_cell (blk_alloc G0 o) 3).trans rfl
  have H0 := Lib.hid G0
  clear G0
  have c1_0 : w4.cell? ⟨w3.heap.size, 0, none⟩ = some (.int .u8 0) := (blk_cell G1 0).trans rfl
  have a1_0 : ∀ o, (w4.alloc o).cell? ⟨w3.heap.size, 0, none⟩ = some (.int .u8 0) := fun o => (blk_cell (blk_alloc G1 o) 0).trans rfl
  have c1_1 : w4.cell? ⟨w3.heap.size, 1, none⟩ = some (.int .u8 2) := (blk_cell G1 1).trans rfl
  have a1_1 : ∀ o, (w4.alloc o).cell? ⟨w3.heap.size, 1, none⟩ = some (.int .u8 2) := fun o => (blk_cell (blk_alloc G1 o) 1).trans rfl
  have c1_2 : w4.cell? ⟨w3.heap.size, 2, none⟩ = some (.int .u8 0) := (blk_cell G1 2).trans rfl
  have a1_2 : ∀ o, (w4.alloc o).cell? ⟨w3.heap.size, 2, none⟩ = some (.int .u8 0) := fun o => (blk_cell (blk_alloc G1 o) 2).trans rfl
  have c1_3 : w4.cell? ⟨w3.heap.size, 3, none⟩ = some (.int .u8 8) := (blk_cell G1 3).trans rfl
  have a1_3 : ∀ o, (w4.alloc o).cell? ⟨w3.heap.size, 3, none⟩ = some (.int .u8 8) := fun o => (blk_cell (blk_alloc G1 o) 3).trans rfl
  have H1 := Lib.hid G1
  clear G1
  go_wp2_with fail
  refine (C3 _).mono ?_
  rintro e w5 ⟨rfl, hb⟩
  clear c0_0 a0_0 c0_1 a0_1 c0_2 a0_2 c0_3 a0_3 c1_0 a1_0 c1_1 a1_1 c1_2 a1_2 c1_3 a1_3
  have G0 := Reg.blk_later (blk_alloc H0.out _) hb
  have G1 := Reg.blk_later (blk_alloc H1.out _) hb
  have G2 : w5.heap[w4.heap.size]? = some (.cells #[.int .u8 1, .int .u8 3, .int .u8 2, .int .u8 0] 24 (0, 0)) := Reg.blk_later (blk_new _ _) hb
  have hE : Ext W w5 := Ext.trans (by have h := HE4.out; (repeat' (first | assumption | exact Ext.refl _ | refine Ext.drewN ?_ | refine Ext.drew ?_ | refine Ext.alloc ?_))) hb
  have HE5 := Lib.hid hE
  clear hE hb HE4 H0 H1
  have c0_0 : w5.cell? ⟨w2.heap.size, 0, none⟩ = some (.int .u8 0) := (blk_cell G0 0).trans rfl
  have a0_0 : ∀ o, (w5.alloc o).cell? ⟨w2.heap.size, 0, none⟩ = some (.int .u8 0) := fun o => (blk_cell (blk_alloc G0 o) 0).trans rfl
  have c0_1 : w5.cell? ⟨w2.heap.size, 1, none⟩ = some (.int .u8 0) := (blk_cell G0 1).trans rfl
  have a0_1 : ∀ o, (w5.alloc o).cell? ⟨w2.heap.size, 1, none⟩ = some (.int .u8 0) := fun o => (blk_cell (blk_alloc G0 o) 1).trans rfl
  have c0_2 : w5.cell? ⟨w2.heap.size, 2, none⟩ = some (.int .u8 0) := (blk_cell G0 2).trans rfl
  have a0_2 : ∀ o, (w5.alloc o).cell? ⟨w2.heap.size, 2, none⟩ = some (.int .u8 0) := fun o => (blk_cell (blk_alloc G0 o) 2).trans rfl
  have c0_3 : w5.cell? ⟨w2.heap.size, 3, none⟩ = some (.int .u8 0) := (blk_cell G0 3).trans rfl
  have a0_3 : ∀ o, (w5.alloc o).cell? ⟨w2.heap.size, 3, none⟩ = some (.int .u8 0) := fun o => (blk_cell (blk_alloc G0 o) 3).trans rfl
  have H0 := Lib.hid G0
  clear G0
  have c1_0 : w5.cell? ⟨w3.heap.size, 0, none⟩ = some (.int .u8 0) := (blk_cell G1 0).trans rfl
  have a1_0 : ∀ o, (w5.alloc o).cell? ⟨w3.heap.size, 0, none⟩ = some (.int .u8 0) := fun o => (blk_cell (blk_alloc G1 o) 0).trans rfl
  have c1_1 : w5.cell? ⟨w3.heap.size, 1, none⟩ = some (.int .u8 2) := (blk_cell G1 1).trans rfl
  have a1_1 : ∀ o, (w5.alloc o).cell? ⟨w3.heap.size, 1, none⟩ = some (.int .u8 2) := fun o => (blk_cell (blk_alloc G1 o) 1).trans rfl
  have c1_2 : w5.cell? ⟨w3.heap.size, 2, none⟩ = some (.int .u8 0) := (blk_cell G1 2).trans rfl
  have a1_2 : ∀ o, (w5.alloc o).cell? ⟨w3.heap.size, 2, none⟩ = some (.int .u8 0) := fun o => (blk_cell (blk_alloc G1 o) 2).trans rfl
  have c1_3 : w5.cell? ⟨w3.heap.size, 3, none⟩ = some (.int .u8 8) := (blk_cell G1 3).trans rfl
  have a1_3 : ∀ o, (w5.alloc o).cell? ⟨w3.heap.size, 3, none⟩ = some (.int .u8 8) := fun o => (blk_cell (blk_alloc G1 o) 3).trans rfl
  have H1 := Lib.hid G1
  clear G1
  have c2_0 : w5.cell? ⟨w4.heap.size, 0, none⟩ = some (.int .u8 1) := (blk_cell G2 0).trans rfl
  have a2_0 : ∀ o, (w5.alloc o).cell? ⟨w4.heap.size, 0, none⟩ = some (.int .u8 1) := fun o => (blk_cell (blk_alloc G2 o) 0).trans rfl
  have c2_1 : w5.cell? ⟨w4.heap.size, 1, none⟩ = some (.int .u8 3) := (blk_cell G2 1).trans rfl
  have a2_1 : ∀ o, (w5.alloc o).cell? ⟨w4.heap.size, 1, none⟩ = some (.int .u8 3) := fun o => (blk_cell (blk_alloc G2 o) 1).trans rfl
  have c2_2 : w5.cell? ⟨w4.heap.size, 2, none⟩ = some (.int .u8 2) := (blk_cell G2 2).trans rfl
  have a2_2 : ∀ o, (w5.alloc o).cell? ⟨w4.heap.size, 2, none⟩ = some (.int .u8 2) := fun o => (blk_cell (blk_alloc G2 o) 2).trans rfl
  have c2_3 : w5.cell? ⟨w4.heap.size, 3, none⟩ = some (.int .u8 0) := (blk_cell G2 3).trans rfl
  have a2_3 : ∀ o, (w5.alloc o).cell? ⟨w4.heap.size, 3, none⟩ = some (.int .u8 0) := fun o => (blk_cell (blk_alloc G2 o) 3).trans rfl
  have H2 := Lib.hid G2
  clear G2
  go_wp2_with fail
  refine (C4 _).mono ?_
  rintro e w6 ⟨rfl, hb⟩
  clear c0_0 a0_0 c0_1 a0_1 c0_2 a0_2 c0_3 a0_3 c1_0 a1_0 c1_1 a1_1 c1_2 a1_2 c1_3 a1_3 c2_0 a2_0 c2_1 a2_1 c2_2 a2_2 c2_3 a2_3
  have G0 := Reg.blk_later (blk_alloc H0.out _) hb
  have G1 := Reg.blk_later (blk_alloc H1.out _) hb
  have G2 := Reg.blk_later (blk_alloc H2.out _) hb
  have G3 : w6.heap[w5.heap.size]? = some (.cells #[.int .u8 0, .int .u8 8, .int .u8 8, .int .u8 8] 24 (0, 0)) := Reg.blk_later (blk_new _ _) hb
  have hE : Ext W w6 := Ext.trans (by have h := HE5.out; (repeat' (first | assumption | exact Ext.refl _ | refine Ext.drewN ?_ | refine Ext.drew ?_ | refine Ext.alloc ?_))) hb
  have HE6 := Lib.hid hE
  clear hE hb HE5 H0 H1 H2
  have c0_0 : w6.cell? ⟨w2.heap.size, 0, none⟩ = some (.int .u8 0) := (blk_cell G0 0).trans rfl
  have a0_0 : ∀ o, (w6.alloc o).cell? ⟨w2.heap.size, 0, none⟩ = some (.int .u8 0) := fun o => (blk_cell (blk_alloc G0 o) 0).trans rfl
  have c0_1 : w6.cell? ⟨w2.heap.size, 1, none⟩ = some (.int .u8 0) := (blk_cell G0 1).trans rfl
  have a0_1 : ∀ o, (w6.alloc o).cell? ⟨w2.heap.size, 1, none⟩ = some (.int .u8 0) := fun o => (blk_cell (blk_alloc G0 o) 1).trans rfl
  have c0_2 : w6.cell? ⟨w2.heap.size, 2, none⟩ = some (.int .u8 0) := (blk_cell G0 2).trans rfl
  have a0_2 : ∀ o, (w6.alloc o).cell? ⟨w2.heap.size, 2, none⟩ = some (.int .u8 0) := fun o => (blk_cell (blk_alloc G0 o) 2).trans rfl
  have c0_3 : w6.cell? ⟨w2.heap.size, 3, none⟩ = some (.int .u8 0) := (blk_cell G0 3).trans rfl
  have a0_3 : ∀ o, (w6.alloc o).cell? ⟨w2.heap.size, 3, none⟩ = some (.int .u8 0) := fun o => (blk_cell (blk_alloc G0 o) 3).trans rfl
  have H0 := Lib.hid G0
  clear G0
  have c1_0 : w6.cell? ⟨w3.heap.size, 0, none⟩ = some (.int .u8 0) := (blk_cell G1 0).trans rfl
  have a1_0 : ∀ o, (w6.alloc o).cell? ⟨w3.heap.size, 0, none⟩ = some (.int .u8 0) := fun o => (blk_cell (blk_alloc G1 o) 0).trans rfl
  have c1_1 : w6.cell? ⟨w3.heap.size, 1, none⟩ = some (.int .u8 2) := (blk_cell G1 1).trans rfl
  have a1_1 : ∀ o, (w6.alloc o).cell? ⟨w3.heap.size, 1, none⟩ = some (.int .u8 2) := fun o => (blk_cell (blk_alloc G1 o) 1).trans rfl
  have c1_2 : w6.cell? ⟨w3.heap.size, 2, none⟩ = some (.int .u8 0) := (blk_cell G1 2).trans rfl
  have a1_2 : ∀ o, (w6.alloc o).cell? ⟨w3.heap.size, 2, none⟩ = some (.int .u8 0) := fun o => (blk_cell (blk_alloc G1 o) 2).trans rfl
  have c1_3 : w6.cell? ⟨w3.heap.size, 3, none⟩ = some (.int .u8 8) := (blk_cell G1 3).trans rfl
  have a1_3 : ∀ o, (w6.alloc o).cell? ⟨w3.heap.size, 3, none⟩ = some (.int .u8 8) := fun o => (blk_cell (blk_alloc G1 o) 3).trans rfl
  have H1 := Lib.hid G1
  clear G1
  have c2_0 : w6.cell? ⟨w4.heap.size, 0, none⟩ = some (.int .u8 1) := (blk_cell G2 0).trans rfl
  have a2_0 : ∀ o, (w6.alloc o).cell? ⟨w4.heap.size, 0, none⟩ = some (.int .u8 1) := fun o => (blk_cell (blk_alloc G2 o) 0).trans rfl
  have c2_1 : w6.cell? ⟨w4.heap.size, 1, none⟩ = some (.int .u8 3) := (blk_cell G2 1).trans rfl
  have a2_1 : ∀ o, (w6.alloc o).cell? ⟨w4.heap.size, 1, none⟩ = some (.int .u8 3) := fun o => (blk_cell (blk_alloc G2 o) 1).trans rfl
  have c2_2 : w6.cell? ⟨w4.heap.size, 2, none⟩ = some (.int .u8 2) := (blk_cell G2 2).trans rfl
  have a2_2 : ∀ o, (w6.alloc o).cell? ⟨w4.heap.size, 2, none⟩ = some (.int .u8 2) := fun o => (blk_cell (blk_alloc G2 o) 2).trans rfl
  have c2_3 : w6.cell? ⟨w4.heap.size, 3, none⟩ = some (.int .u8 0) := (blk_cell G2 3).trans rfl
  have a2_3 : ∀ o, (w6.alloc o).cell? ⟨w4.heap.size, 3, none⟩ = some (.int .u8 0) := fun o => (blk_cell (blk_alloc G2 o) 3).trans rfl
  have H2 := Lib.hid G2
  clear G2
  have c3_0 : w6.cell? ⟨w5.heap.size, 0, none⟩ = some (.int .u8 0) := (blk_cell G3 0).trans rfl
  have a3_0 : ∀ o, (w6.alloc o).cell? ⟨w5.heap.size, 0, none⟩ = some (.int .u8 0) := fun o => (blk_cell (blk_alloc G3 o) 0).trans rfl
  have c3_1 : w6.cell? ⟨w5.heap.size, 1, none⟩ = some (.int .u8 8) := (blk_cell G3 1).trans rfl
  have a3_1 : ∀ o, (w6.alloc o).cell? ⟨w5.heap.size, 1, none⟩ = some (.int .u8 8) := fun o => (blk_cell (blk_alloc G3 o) 1).trans rfl
  have c3_2 : w6.cell? ⟨w5.heap.size, 2, none⟩ = some (.int .u8 8) := (blk_cell G3 2).trans rfl
  have a3_2 : ∀ o, (w6.alloc o).cell? ⟨w5.heap.size, 2, none⟩ = some (.int .u8 8) := fun o => (blk_cell (blk_alloc G3 o) 2).trans rfl
  have c3_3 : w6.cell? ⟨w5.heap.size, 3, none⟩ = some (.int .u8 8) := (blk_cell G3 3).trans rfl
  have a3_3 : ∀ o, (w6.alloc o).cell? ⟨w5.heap.size, 3, none⟩ = some (.int .u8 8) := fun o => (blk_cell (blk_alloc G3 o) 3).trans rfl
  have H3 := Lib.hid G3
  clear G3
  go_wp2_with fail
  refine (C5 _).mono ?_
  rintro e w7 ⟨rfl, hb⟩
  clear c0_0 a0_0 c0_1 a0_1 c0_2 a0_2 c0_3 a0_3 c1_0 a1_0 c1_1 a1_1 c1_2 a1_2 c1_3 a1_3 c2_0 a2_0 c2_1 a2_1 c2_2 a2_2 c2_3 a2_3 c3_0 a3_0 c3_1 a3_1 c3_2 a3_2 c3_3 a3_3
  have G0 := Reg.blk_later (blk_alloc H0.out _) hb
  have G1 := Reg.blk_later (blk_alloc H1.out _) hb
  have G2 := Reg.blk_later (blk_alloc H2.out _) hb
  have G3 := Reg.blk_later (blk_alloc H3.out _) hb
  have G4 : w7.heap[w6.heap.size]? = some (.cells #[.int .u8 31, .int .u8 31, .int .u8 31, .int .u8 31] 24 (0, 0)) := Reg.blk_later (blk_new _ _) hb
  have hE : Ext W w7 := Ext.trans (by have h := HE6.out; (repeat' (first | assumption | exact Ext.refl _ | refine Ext.drewN ?_ | refine Ext.drew ?_ | refine Ext.alloc ?_))) hb
  have HE7 := Lib.hid hE
  clear hE hb HE6 H0 H1 H2 H3
  have c0_0 : w7.cell? ⟨w2.heap.size, 0, none⟩ = some (.int .u8 0) := (blk_cell G0 0).trans rfl
  have a0_0 : ∀ o, (w7.alloc o).cell? ⟨w2.heap.size, 0, none⟩ = some (.int .u8 0) := fun o => (blk_cell (blk_alloc G0 o) 0).trans rfl
  have c0_1 : w7.cell? ⟨w2.heap.size, 1, none⟩ = some (.int .u8 0) := (blk_cell G0 1).trans rfl
  have a0_1 : ∀ o, (w7.alloc o).cell? ⟨w2.heap.size, 1, none⟩ = some (.int .u8 0) := fun o => (blk_cell (blk_alloc G0 o) 1).trans rfl
  have c0_2 : w7.cell? ⟨w2.heap.size, 2, none⟩ = some (.int .u8 0) := (blk_cell G0 2).trans rfl
  have a0_2 : ∀ o, (w7.alloc o).cell? ⟨w2.heap.size, 2, none⟩ = some (.int .u8 0) := fun o => (blk_cell (blk_alloc G0 o) 2).trans rfl
  have c0_3 : w7.cell? ⟨w2.heap.size, 3, none⟩ = some (.int .u8 0) := (blk_cell G0 3).trans rfl
  have a0_3 : ∀ o, (w7.alloc o).cell? ⟨w2.heap.size, 3, none⟩ = some (.int .u8 0) := fun o => (blk_cell (blk_alloc G0 o) 3).trans rfl
  have H0 := Lib.hid G0
  clear G0
  have c1_0 : w7.cell? ⟨w3.heap.size, 0, none⟩ = some (.int .u8 0) := (blk_cell G1 0).trans rfl
  have a1_0 : ∀ o, (w7.alloc o).cell? ⟨w3.heap.size, 0, none⟩ = some (.int .u8 0) := fun o => (blk_cell (blk_alloc G1 o) 0).trans rfl
  have c1_1 : w7.cell? ⟨w3.heap.size, 1, none⟩ = some (.int .u8 2) := (blk_cell G1 1).trans rfl
  have a1_1 : ∀ o, (w7.alloc o).cell? ⟨w3.heap.size, 1, none⟩ = some (.int .u8 2) := fun o => (blk_cell (blk_alloc G1 o) 1).trans rfl
  have c1_2 : w7.cell? ⟨w3.heap.size, 2, none⟩ = some (.int .u8 0) := (blk_cell G1 2).trans rfl
  have a1_2 : ∀ o, (w7.alloc o).cell? ⟨w3.heap.size, 2, none⟩ = some (.int .u8 0) := fun o => (blk_cell (blk_alloc G1 o) 2).trans rfl
  have c1_3 : w7.cell? ⟨w3.heap.size, 3, none⟩ = some (.int .u8 8) := (blk_cell G1 3).trans rfl
  have a1_3 : ∀ o, (w7.alloc o).cell? ⟨w3.heap.size, 3, none⟩ = some (.int .u8 8) := fun o => (blk_cell (blk_alloc G1 o) 3).trans rfl
  have H1 := Lib.hid G1
  clear G1
  have c2_0 : w7.cell? ⟨w4.heap.size, 0, none⟩ = some (.int .u8 1) := (blk_cell G2 0).trans rfl
  have a2_0 : ∀ o, (w7.alloc o).cell? ⟨w4.heap.size, 0, none⟩ = some (.int .u8 1) := fun o => (blk_cell (blk_alloc G2 o) 0).trans rfl
  have c2_1 : w7.cell? ⟨w4.heap.size, 1, none⟩ = some (.int .u8 3) := (blk_cell G2 1).trans rfl
  have a2_1 : ∀ o, (w7.alloc o).cell? ⟨w4.heap.size, 1, none⟩ = some (.int .u8 3) := fun o => (blk_cell (blk_alloc G2 o) 1).trans rfl
  have c2_2 : w7.cell? ⟨w4.heap.size, 2, none⟩ = some (.int .u8 2) := (blk_cell G2 2).trans rfl
  have a2_2 : ∀ o, (w7.alloc o).cell? ⟨w4.heap.size, 2, none⟩ = some (.int .u8 2) := fun o => (blk_cell (blk_alloc G2 o) 2).trans rfl
  have c2_3 : w7.cell? ⟨w4.heap.size, 3, none⟩ = some (.int .u8 0) := (blk_cell G2 3).trans rfl
  have a2_3 : ∀ o, (w7.alloc o).cell? ⟨w4.heap.size, 3, none⟩ = some (.int .u8 0) := fun o => (blk_cell (blk_alloc G2 o) 3).trans rfl
  have H2 := Lib.hid G2
  clear G2
  have c3_0 : w7.cell? ⟨w5.heap.size, 0, none⟩ = some (.int .u8 0) := (blk_cell G3 0).trans rfl
  have a3_0 : ∀ o, (w7.alloc o).cell? ⟨w5.heap.size, 0, none⟩ = some (.int .u8 0) := fun o => (blk_cell (blk_alloc G3 o) 0).trans rfl
  have c3_1 : w7.cell? ⟨w5.heap.size, 1, none⟩ = some (.int .u8 8) := (blk_cell G3 1).trans rfl
  have a3_1 : ∀ o, (w7.alloc o).cell? ⟨w5.heap.size, 1, none⟩ = some (.int .u8 8) := fun o => (blk_cell (blk_alloc G3 o) 1).trans rfl
  have c3_2 : w7.cell? ⟨w5.heap.size, 2, none⟩ = some (.int .u8 8) := (blk_cell G3 2).trans rfl
  have a3_2 : ∀ o, (w7.alloc o).cell? ⟨w5.heap.size, 2, none⟩ = some (.int .u8 8) := fun o => (blk_cell (blk_alloc G3 o) 2).trans rfl
  have c3_3 : w7.cell? ⟨w5.heap.size, 3, none⟩ = some (.int .u8 8) := (blk_cell G3 3).trans rfl
  have a3_3 : ∀ o, (w7.alloc o).cell? ⟨w5.heap.size, 3, none⟩ = some (.int .u8 8) := fun o => (blk_cell (blk_alloc G3 o) 3).trans rfl
  have H3 := Lib.hid G3
  clear G3
  have c4_0 : w7.cell? ⟨w6.heap.size, 0, none⟩ = some (.int .u8 31) := (blk_cell G4 0).trans rfl
  have a4_0 : ∀ o, (w7.alloc o).cell? ⟨w6.heap.size, 0, none⟩ = some (.int .u8 31) := fun o => (blk_cell (blk_alloc G4 o) 0).trans rfl
  have c4_1 : w7.cell? ⟨w6.heap.size, 1, none⟩ = some (.int .u8 31) := (blk_cell G4 1).trans rfl
  have a4_1 : ∀ o, (w7.alloc o).cell? ⟨w6.heap.size, 1, none⟩ = some (.int .u8 31) := fun o => (blk_cell (blk_alloc G4 o) 1).trans rfl
  have c4_2 : w7.cell? ⟨w6.heap.size, 2, none⟩ = some (.int .u8 31) := (blk_cell G4 2).trans rfl
  have a4_2 : ∀ o, (w7.alloc o).cell? ⟨w6.heap.size, 2, none⟩ = some (.int .u8 31) := fun o => (blk_cell (blk_alloc G4 o) 2).trans rfl
  have c4_3 : w7.cell? ⟨w6.heap.size, 3, none⟩ = some (.int .u8 31) := (blk_cell G4 3).trans rfl
  have a4_3 : ∀ o, (w7.alloc o).cell? ⟨w6.heap.size, 3, none⟩ = some (.int .u8 31) := fun o => (blk_cell (blk_alloc G4 o) 3).trans rfl
  have H4 := Lib.hid G4
  clear G4
  go_wp2_with fail
  clear c0_0 a0_0 c0_1 a0_1 c0_2 a0_2 c0_3 a0_3 c1_0 a1_0 c1_1 a1_1 c1_2 a1_2 c1_3 a1_3 c2_0 a2_0 c2_1 a2_1 c2_2 a2_2 c2_3 a2_3 c3_0 a3_0 c3_1 a3_1 c3_2 a3_2 c3_3 a3_3 c4_0 a4_0 c4_1 a4_1 c4_2 a4_2 c4_3 a4_3
  refine Reg.wp_open (fun w' => Ext W w' ∧ w'.heap[w2.heap.size]? = some (.cells #[.int .u8 0, .int .u8 0, .int .u8 0, .int .u8 0] 24 (0, 0)) ∧ w'.heap[w3.heap.size]? = some (.cells #[.int .u8 0, .int .u8 2, .int .u8 0, .int .u8 8] 24 (0, 0)) ∧ w'.heap[w4.heap.size]? = some (.cells #[.int .u8 1, .int .u8 3, .int .u8 2, .int .u8 0] 24 (0, 0)) ∧ w'.heap[w5.heap.size]? = some (.cells #[.int .u8 0, .int .u8 8, .int .u8 8, .int .u8 8] 24 (0, 0)) ∧ w'.heap[w6.heap.size]? = some (.cells #[.int .u8 31, .int .u8 31, .int .u8 31, .int .u8 31] 24 (0, 0)) ∧ w'.heap[w7.heap.size]? = some (.cells #[.int .u8 3, .int .u8 0, .int .u8 0, .int .u8 0] 24 (0, 0))) ⟨by have h := HE7.out; (repeat' (first | assumption | exact Ext.refl _ | refine Ext.drewN ?_ | refine Ext.drew ?_ | refine Ext.alloc ?_)), (blk_alloc H0.out _), (blk_alloc H1.out _), (blk_alloc H2.out _), (blk_alloc H3.out _), (blk_alloc H4.out _), blk_new _ _⟩ (fun w8 hS => ?_)
  clear HE7 H0 H1 H2 H3 H4
  obtain ⟨hE, G0, G1, G2, G3, G4, G5⟩ := hS
  have HE8 := Lib.hid hE
  clear hE
  have c0_0 : w8.cell? ⟨w2.heap.size, 0, none⟩ = some (.int .u8 0) := (blk_cell G0 0).trans rfl
  have c0_1 : w8.cell? ⟨w2.heap.size, 1, none⟩ = some (.int .u8 0) := (blk_cell G0 1).trans rfl
  have c0_2 : w8.cell? ⟨w2.heap.size, 2, none⟩ = some (.int .u8 0) := (blk_cell G0 2).trans rfl
  have c0_3 : w8.cell? ⟨w2.heap.size, 3, none⟩ = some (.int .u8 0) := (blk_cell G0 3).trans rfl
  have H0 := Lib.hid G0
  clear G0
  have c1_0 : w8.cell? ⟨w3.heap.size, 0, none⟩ = some (.int .u8 0) := (blk_cell G1 0).trans rfl
  have c1_1 : w8.cell? ⟨w3.heap.size, 1, none⟩ = some (.int .u8 2) := (blk_cell G1 1).trans rfl
  have c1_2 : w8.cell? ⟨w3.heap.size, 2, none⟩ = some (.int .u8 0) := (blk_cell G1 2).trans rfl
  have c1_3 : w8.cell? ⟨w3.heap.size, 3, none⟩ = some (.int .u8 8) := (blk_cell G1 3).trans rfl
  have H1 := Lib.hid G1
  clear G1
  have c2_0 : w8.cell? ⟨w4.heap.size, 0, none⟩ = some (.int .u8 1) := (blk_cell G2 0).trans rfl
  have c2_1 : w8.cell? ⟨w4.heap.size, 1, none⟩ = some (.int .u8 3) := (blk_cell G2 1).trans rfl
  have c2_2 : w8.cell? ⟨w4.heap.size, 2, none⟩ = some (.int .u8 2) := (blk_cell G2 2).trans rfl
  have c2_3 : w8.cell? ⟨w4.heap.size, 3, none⟩ = some (.int .u8 0) := (blk_cell G2 3).trans rfl
  have H2 := Lib.hid G2
  clear G2
  have c3_0 : w8.cell? ⟨w5.heap.size, 0, none⟩ = some (.int .u8 0) := (blk_cell G3 0).trans rfl
  have c3_1 : w8.cell? ⟨w5.heap.size, 1, none⟩ = some (.int .u8 8) := (blk_cell G3 1).trans rfl
  have c3_2 : w8.cell? ⟨w5.heap.size, 2, none⟩ = some (.int .u8 8) := (blk_cell G3 2).trans rfl
  have c3_3 : w8.cell? ⟨w5.heap.size, 3, none⟩ = some (.int .u8 8) := (blk_cell G3 3).trans rfl
  have H3 := Lib.hid G3
  clear G3
  have c4_0 : w8.cell? ⟨w6.heap.size, 0, none⟩ = some (.int .u8 31) := (blk_cell G4 0).trans rfl
  have c4_1 : w8.cell? ⟨w6.heap.size, 1, none⟩ = some (.int .u8 31) := (blk_cell G4 1).trans rfl
  have c4_2 : w8.cell? ⟨w6.heap.size, 2, none⟩ = some (.int .u8 31) := (blk_cell G4 2).trans rfl
  have c4_3 : w8.cell? ⟨w6.heap.size, 3, none⟩ = some (.int .u8 31) := (blk_cell G4 3).trans rfl
  have H4 := Lib.hid G4
  clear G4
  have c5_0 : w8.cell? ⟨w7.heap.size, 0, none⟩ = some (.int .u8 3) := (blk_cell G5 0).trans rfl
  have c5_1 : w8.cell? ⟨w7.heap.size, 1, none⟩ = some (.int .u8 0) := (blk_cell G5 1).trans rfl
  have c5_2 : w8.cell? ⟨w7.heap.size, 2, none⟩ = some (.int .u8 0) := (blk_cell G5 2).trans rfl
  have c5_3 : w8.cell? ⟨w7.heap.size, 3, none⟩ = some (.int .u8 0) := (blk_cell G5 3).trans rfl
  have H5 := Lib.hid G5
  clear G5
  have k0_0 := cell_regrown c0_0
  have k0_1 := cell_regrown c0_1
  have k0_2 := cell_regrown c0_2
  have k0_3 := cell_regrown c0_3
  have k1_0 := cell_regrown c1_0
  have k1_1 := cell_regrown c1_1
  have k1_2 := cell_regrown c1_2
  have k1_3 := cell_regrown c1_3
  have k2_0 := cell_regrown c2_0
  have k2_1 := cell_regrown c2_1
  have k2_2 := cell_regrown c2_2
  have k2_3 := cell_regrown c2_3
  have k3_0 := cell_regrown c3_0
  have k3_1 := cell_regrown c3_1
  have k3_2 := cell_regrown c3_2
  have k3_3 := cell_regrown c3_3
  have k4_0 := cell_regrown c4_0
  have k4_1 := cell_regrown c4_1
  have k4_2 := cell_regrown c4_2
  have k4_3 := cell_regrown c4_3
  have k5_0 := cell_regrown c5_0
  have k5_1 := cell_regrown c5_1
  have k5_2 := cell_regrown c5_2
  have k5_3 := cell_regrown c5_3
  clear c0_0 c0_1 c0_2 c0_3 c1_0 c1_1 c1_2 c1_3 c2_0 c2_1 c2_2 c2_3 c3_0 c3_1 c3_2 c3_3 c4_0 c4_1 c4_2 c4_3 c5_0 c5_1 c5_2 c5_3
  have xD0 := Reg.call_cl D0 w8
  have xD1 := Reg.call_cl D1 w8
  have xD2 := Reg.call_cl D2 w8
  have xD3 := Reg.call_cl D3 w8
  refine Reg.wp_region_reads (B := w8) (by kernel_rfl) (by kernel_rfl) (Below.refl _ w8) ?_
  (repeat (first | go_big_quiet_step (first | exact xD0 _ _ _ rfl | exact xD1 _ _ _ rfl | exact xD2 _ _ _ rfl | exact xD3 _ _ _ rfl) | quiet_step (first | exact xD0 _ _ _ rfl | exact xD1 _ _ _ rfl | exact xD2 _ _ _ rfl | exact xD3 _ _ _ rfl)))
  refine wpQuiet_nil ?_
  intro _ hw'
  obtain ⟨⟨dq, osq⟩, hw''⟩ := hw'
  subst hw''
  have hE := HE8.out
  go_wp2
  go_ret
  exact ⟨rfl, Ext.trans hE (Ext.of_cl w8 dq osq)⟩
def mk4 (a b c d : BitVec 8) : TF := fun q => match q with | 0 => a | 1 => b | 2 => c | _ => d
theorem k0 : ∀ w, Calls Try.prog 13 #[.int .i64 18, .int .u32 0, .int .u32 0, .agg #[.int .u8 0, .int .u8 0, .int .u8 0, .int .u8 0], .agg #[.int .u8 0, .int .u8 0, .int .u8 0, .int .u8 0]] w (RetE (.tuple #[.agg #[.int .u8 0, .int .u8 0, .int .u8 0, .int .u8 0], .int .i64 1]) w) := fun w => by
  have h := flowC 18 0 0 (mk4 0 0 0 0) (mk4 0 0 0 0) (by decide) (by decide) (by decide) (by decide) w
  have e0 : flowF 18 0 0 (mk4 0 0 0 0) (mk4 0 0 0 0) 0 = 0 := by decide +kernel
  have e1 : flowF 18 0 0 (mk4 0 0 0 0) (mk4 0 0 0 0) 1 = 0 := by decide +kernel
  have e2 : flowF 18 0 0 (mk4 0 0 0 0) (mk4 0 0 0 0) 2 = 0 := by decide +kernel
  have e3 : flowF 18 0 0 (mk4 0 0 0 0) (mk4 0 0 0 0) 3 = 0 := by decide +kernel
  have e : tagF (flowF 18 0 0 (mk4 0 0 0 0) (mk4 0 0 0 0)) = .agg #[.int .u8 0, .int .u8 0, .int .u8 0, .int .u8 0] := by
    show Value.agg #[.int .u8 (iv (flowF 18 0 0 (mk4 0 0 0 0) (mk4 0 0 0 0) 0)), .int .u8 (iv (flowF 18 0 0 (mk4 0 0 0 0) (mk4 0 0 0 0) 1)), .int .u8 (iv (flowF 18 0 0 (mk4 0 0 0 0) (mk4 0 0 0 0) 2)), .int .u8 (iv (flowF 18 0 0 (mk4 0 0 0 0) (mk4 0 0 0 0) 3))] = _
    rw [e0, e1, e2, e3]
    rfl
  rw [e] at h
  exact h
theorem k1 : ∀ w, Calls Try.prog 13 #[.int .i64 9, .int .u32 4278255360, .int .u32 305419896, .agg #[.int .u8 0, .int .u8 0, .int .u8 0, .int .u8 0], .agg #[.int .u8 1, .int .u8 2, .int .u8 4, .int .u8 8]] w (RetE (.tuple #[.agg #[.int .u8 0, .int .u8 2, .int .u8 0, .int .u8 8], .int .i64 0]) w) := fun w => by
  have h := flowC 9 4278255360 305419896 (mk4 0 0 0 0) (mk4 1 2 4 8) (by decide) (by decide) (by decide) (by decide) w
  have e0 : flowF 9 4278255360 305419896 (mk4 0 0 0 0) (mk4 1 2 4 8) 0 = 0 := by decide +kernel
  have e1 : flowF 9 4278255360 305419896 (mk4 0 0 0 0) (mk4 1 2 4 8) 1 = 2 := by decide +kernel
  have e2 : flowF 9 4278255360 305419896 (mk4 0 0 0 0) (mk4 1 2 4 8) 2 = 0 := by decide +kernel
  have e3 : flowF 9 4278255360 305419896 (mk4 0 0 0 0) (mk4 1 2 4 8) 3 = 8 := by decide +kernel
  have e : tagF (flowF 9 4278255360 305419896 (mk4 0 0 0 0) (mk4 1 2 4 8)) = .agg #[.int .u8 0, .int .u8 2, .int .u8 0, .int .u8 8] := by
    show Value.agg #[.int .u8 (iv (flowF 9 4278255360 305419896 (mk4 0 0 0 0) (mk4 1 2 4 8) 0)), .int .u8 (iv (flowF 9 4278255360 305419896 (mk4 0 0 0 0) (mk4 1 2 4 8) 1)), .int .u8 (iv (flowF 9 4278255360 305419896 (mk4 0 0 0 0) (mk4 1 2 4 8) 2)), .int .u8 (iv (flowF 9 4278255360 305419896 (mk4 0 0 0 0) (mk4 1 2 4 8) 3))] = _
    rw [e0, e1, e2, e3]
    rfl
  rw [e] at h
  exact h
theorem k2 : ∀ w, Calls Try.prog 13 #[.int .i64 2, .int .u32 0, .int .u32 4, .agg #[.int .u8 1, .int .u8 2, .int .u8 0, .int .u8 0], .agg #[.int .u8 0, .int .u8 0, .int .u8 0, .int .u8 0]] w (RetE (.tuple #[.agg #[.int .u8 1, .int .u8 3, .int .u8 2, .int .u8 0], .int .i64 0]) w) := fun w => by
  have h := flowC 2 0 4 (mk4 1 2 0 0) (mk4 0 0 0 0) (by decide) (by decide) (by decide) (by decide) w
  have e0 : flowF 2 0 4 (mk4 1 2 0 0) (mk4 0 0 0 0) 0 = 1 := by decide +kernel
  have e1 : flowF 2 0 4 (mk4 1 2 0 0) (mk4 0 0 0 0) 1 = 3 := by decide +kernel
  have e2 : flowF 2 0 4 (mk4 1 2 0 0) (mk4 0 0 0 0) 2 = 2 := by decide +kernel
  have e3 : flowF 2 0 4 (mk4 1 2 0 0) (mk4 0 0 0 0) 3 = 0 := by decide +kernel
  have e : tagF (flowF 2 0 4 (mk4 1 2 0 0) (mk4 0 0 0 0)) = .agg #[.int .u8 1, .int .u8 3, .int .u8 2, .int .u8 0] := by
    show Value.agg #[.int .u8 (iv (flowF 2 0 4 (mk4 1 2 0 0) (mk4 0 0 0 0) 0)), .int .u8 (iv (flowF 2 0 4 (mk4 1 2 0 0) (mk4 0 0 0 0) 1)), .int .u8 (iv (flowF 2 0 4 (mk4 1 2 0 0) (mk4 0 0 0 0) 2)), .int .u8 (iv (flowF 2 0 4 (mk4 1 2 0 0) (mk4 0 0 0 0) 3))] = _
    rw [e0, e1, e2, e3]
    rfl
  rw [e] at h
  exact h
theorem k3 : ∀ w, Calls Try.prog 13 #[.int .i64 7, .int .u32 0, .int .u32 12, .agg #[.int .u8 1, .int .u8 0, .int .u8 0, .int .u8 8], .agg #[.int .u8 0, .int .u8 0, .int .u8 0, .int .u8 0]] w (RetE (.tuple #[.agg #[.int .u8 0, .int .u8 8, .int .u8 8, .int .u8 8], .int .i64 0]) w) := fun w => by
  have h := flowC 7 0 12 (mk4 1 0 0 8) (mk4 0 0 0 0) (by decide) (by decide) (by decide) (by decide) w
  have e0 : flowF 7 0 12 (mk4 1 0 0 8) (mk4 0 0 0 0) 0 = 0 := by decide +kernel
  have e1 : flowF 7 0 12 (mk4 1 0 0 8) (mk4 0 0 0 0) 1 = 8 := by decide +kernel
  have e2 : flowF 7 0 12 (mk4 1 0 0 8) (mk4 0 0 0 0) 2 = 8 := by decide +kernel
  have e3 : flowF 7 0 12 (mk4 1 0 0 8) (mk4 0 0 0 0) 3 = 8 := by decide +kernel
  have e : tagF (flowF 7 0 12 (mk4 1 0 0 8) (mk4 0 0 0 0)) = .agg #[.int .u8 0, .int .u8 8, .int .u8 8, .int .u8 8] := by
    show Value.agg #[.int .u8 (iv (flowF 7 0 12 (mk4 1 0 0 8) (mk4 0 0 0 0) 0)), .int .u8 (iv (flowF 7 0 12 (mk4 1 0 0 8) (mk4 0 0 0 0) 1)), .int .u8 (iv (flowF 7 0 12 (mk4 1 0 0 8) (mk4 0 0 0 0) 2)), .int .u8 (iv (flowF 7 0 12 (mk4 1 0 0 8) (mk4 0 0 0 0) 3))] = _
    rw [e0, e1, e2, e3]
    rfl
  rw [e] at h
  exact h
theorem k4 : ∀ w, Calls Try.prog 13 #[.int .i64 6, .int .u32 0, .int .u32 1, .agg #[.int .u8 1, .int .u8 2, .int .u8 4, .int .u8 8], .agg #[.int .u8 16, .int .u8 0, .int .u8 0, .int .u8 0]] w (RetE (.tuple #[.agg #[.int .u8 31, .int .u8 31, .int .u8 31, .int .u8 31], .int .i64 0]) w) := fun w => by
  have h := flowC 6 0 1 (mk4 1 2 4 8) (mk4 16 0 0 0) (by decide) (by decide) (by decide) (by decide) w
  have e0 : flowF 6 0 1 (mk4 1 2 4 8) (mk4 16 0 0 0) 0 = 31 := by decide +kernel
  have e1 : flowF 6 0 1 (mk4 1 2 4 8) (mk4 16 0 0 0) 1 = 31 := by decide +kernel
  have e2 : flowF 6 0 1 (mk4 1 2 4 8) (mk4 16 0 0 0) 2 = 31 := by decide +kernel
  have e3 : flowF 6 0 1 (mk4 1 2 4 8) (mk4 16 0 0 0) 3 = 31 := by decide +kernel
  have e : tagF (flowF 6 0 1 (mk4 1 2 4 8) (mk4 16 0 0 0)) = .agg #[.int .u8 31, .int .u8 31, .int .u8 31, .int .u8 31] := by
    show Value.agg #[.int .u8 (iv (flowF 6 0 1 (mk4 1 2 4 8) (mk4 16 0 0 0) 0)), .int .u8 (iv (flowF 6 0 1 (mk4 1 2 4 8) (mk4 16 0 0 0) 1)), .int .u8 (iv (flowF 6 0 1 (mk4 1 2 4 8) (mk4 16 0 0 0) 2)), .int .u8 (iv (flowF 6 0 1 (mk4 1 2 4 8) (mk4 16 0 0 0) 3))] = _
    rw [e0, e1, e2, e3]
    rfl
  rw [e] at h
  exact h
theorem k5 : ∀ w, Calls Try.prog 13 #[.int .i64 3, .int .u32 0, .int .u32 0, .agg #[.int .u8 0, .int .u8 0, .int .u8 0, .int .u8 1], .agg #[.int .u8 2, .int .u8 0, .int .u8 0, .int .u8 0]] w (RetE (.tuple #[.agg #[.int .u8 3, .int .u8 0, .int .u8 0, .int .u8 0], .int .i64 0]) w) := fun w => by
  have h := flowC 3 0 0 (mk4 0 0 0 1) (mk4 2 0 0 0) (by decide) (by decide) (by decide) (by decide) w
  have e0 : flowF 3 0 0 (mk4 0 0 0 1) (mk4 2 0 0 0) 0 = 3 := by decide +kernel
  have e1 : flowF 3 0 0 (mk4 0 0 0 1) (mk4 2 0 0 0) 1 = 0 := by decide +kernel
  have e2 : flowF 3 0 0 (mk4 0 0 0 1) (mk4 2 0 0 0) 2 = 0 := by decide +kernel
  have e3 : flowF 3 0 0 (mk4 0 0 0 1) (mk4 2 0 0 0) 3 = 0 := by decide +kernel
  have e : tagF (flowF 3 0 0 (mk4 0 0 0 1) (mk4 2 0 0 0)) = .agg #[.int .u8 3, .int .u8 0, .int .u8 0, .int .u8 0] := by
    show Value.agg #[.int .u8 (iv (flowF 3 0 0 (mk4 0 0 0 1) (mk4 2 0 0 0) 0)), .int .u8 (iv (flowF 3 0 0 (mk4 0 0 0 1) (mk4 2 0 0 0) 1)), .int .u8 (iv (flowF 3 0 0 (mk4 0 0 0 1) (mk4 2 0 0 0) 2)), .int .u8 (iv (flowF 3 0 0 (mk4 0 0 0 1) (mk4 2 0 0 0) 3))] = _
    rw [e0, e1, e2, e3]
    rfl
  rw [e] at h
  exact h
theorem walk (W : World) :
    Calls Try.prog 9 #[] W fun e w' => e = .returned (.bool true) ∧ Below W.heap.size W w' :=
  core k0 k1 k2 k3 k4 k5 (fun w => fill20E 31 w) (fun w => narC (mk4 1 2 4 8) 1 true w) (fun w => narC (mk4 1 2 4 8) 2 false w) (fun w => upC (mk4 0 1 0 2) w)
end Go.Proofs.Ytbhoijkamnaopaa.TagKnown
