/- TagRises: its walk. -/
import Derived.Test.YtbhoijkamnaopaaTagC
import Derived.Test.YtbhoijkamnaopaaReg2
import Derived.Test.YtbhoijkamnaopaaTagAwake
import Derived.Test.YtbhoijkamnaopaaTagLaws
import Derived.Test.YtbhoijkamnaopaaOpenT
import Derived.StillTailTactics
import Derived.BigRegion
import Derived.LoopN
import Derived.Deep.RegionHeld3
import Derived.Lib.Hide
namespace Go.Proofs.Ytbhoijkamnaopaa.TagRises
open Go Go.RowKit Go.Proofs.YtbhoijkamnaopaaW.PrintWords Go.Proofs.YtbhoijkamnaopaaW.PrintLast Go.Proofs.YtbhoijkamnaopaaW.PrintMore Go.Proofs.Ytbhoijkamnaopaa.Tag Go.Proofs.Ytbhoijkamnaopaa Go.Sort Go.Proofs.Ytbhoijkamnaopaa.Open Go.Proofs.Ytbhoijkamnaopaa.OpenT
set_option linter.unusedVariables false
set_option linter.unusedSimpArgs false
attribute [local go_sem] Reg.qeOp Reg.qeUpon
theorem Put.refl {w : World} {g : Nat} {o : Obj} (h : w.heap[g]? = some o) : Reg.Put g o w w := ⟨rfl, rfl, rfl, Nat.le_refl _, h, fun _ _ => rfl⟩
theorem Put.set {w w1 : World} {g : Nat} {t : TypeId} {cs : Array Value} (p : Reg.Put g (.cells cs t (0, 0)) w w1) (i : Nat) (u : Value) : Reg.Put g (.cells (cs.setIfInBounds i u) t (0, 0)) w (w1.setCell ⟨g, i, none⟩ u) :=
  ⟨p.os, p.tape, p.output, by have := p.size; simp [World.setCell]; exact this, blk_set p.here i u, fun k hk => (Below.heap_setCell w1 ⟨g, i, none⟩ u k hk).trans (p.there k hk)⟩
set_option maxRecDepth 100000 in
set_option maxHeartbeats 40000000 in
theorem core {W : World} {kind a b a0 a1 a2 a3 b0 b1 b2 b3 c0 c1 c2 c3 x0 x1 x2 x3 y0 y1 y2 y3 z0 z1 z2 z3 j0 j1 j2 j3 k0 k1 k2 k3 e : Int} (F : ∀ w : World, Calls Try.prog 13 #[.int .i64 kind, .int .u32 a, .int .u32 b, .agg #[.int .u8 a0, .int .u8 a1, .int .u8 a2, .int .u8 a3], .agg #[.int .u8 b0, .int .u8 b1, .int .u8 b2, .int .u8 b3]] w (RetE (.tuple #[.agg #[.int .u8 x0, .int .u8 x1, .int .u8 x2, .int .u8 x3], .int .i64 e]) w)) (J1 : ∀ w : World, Calls Try.prog 18 #[.agg #[.int .u8 a0, .int .u8 a1, .int .u8 a2, .int .u8 a3], .agg #[.int .u8 c0, .int .u8 c1, .int .u8 c2, .int .u8 c3]] w (RetE (.agg #[.int .u8 j0, .int .u8 j1, .int .u8 j2, .int .u8 j3]) w)) (G : ∀ w : World, Calls Try.prog 13 #[.int .i64 kind, .int .u32 a, .int .u32 b, .agg #[.int .u8 j0, .int .u8 j1, .int .u8 j2, .int .u8 j3], .agg #[.int .u8 b0, .int .u8 b1, .int .u8 b2, .int .u8 b3]] w (RetE (.tuple #[.agg #[.int .u8 y0, .int .u8 y1, .int .u8 y2, .int .u8 y3], .int .i64 e]) w)) (J2 : ∀ w : World, Calls Try.prog 18 #[.agg #[.int .u8 b0, .int .u8 b1, .int .u8 b2, .int .u8 b3], .agg #[.int .u8 c0, .int .u8 c1, .int .u8 c2, .int .u8 c3]] w (RetE (.agg #[.int .u8 k0, .int .u8 k1, .int .u8 k2, .int .u8 k3]) w)) (H : ∀ w : World, Calls Try.prog 13 #[.int .i64 kind, .int .u32 a, .int .u32 b, .agg #[.int .u8 a0, .int .u8 a1, .int .u8 a2, .int .u8 a3], .agg #[.int .u8 k0, .int .u8 k1, .int .u8 k2, .int .u8 k3]] w (RetE (.tuple #[.agg #[.int .u8 z0, .int .u8 z1, .int .u8 z2, .int .u8 z3], .int .i64 e]) w)) (JX : ∀ w : World, Calls Try.prog 18 #[.agg #[.int .u8 x0, .int .u8 x1, .int .u8 x2, .int .u8 x3], .agg #[.int .u8 y0, .int .u8 y1, .int .u8 y2, .int .u8 y3]] w (RetE (.agg #[.int .u8 y0, .int .u8 y1, .int .u8 y2, .int .u8 y3]) w)) (JZ : ∀ w : World, Calls Try.prog 18 #[.agg #[.int .u8 x0, .int .u8 x1, .int .u8 x2, .int .u8 x3], .agg #[.int .u8 z0, .int .u8 z1, .int .u8 z2, .int .u8 z3]] w (RetE (.agg #[.int .u8 z0, .int .u8 z1, .int .u8 z2, .int .u8 z3]) w)) : Calls Try.prog 6 #[.int .i64 kind, .int .u32 a, .int .u32 b, .agg #[.int .u8 a0, .int .u8 a1, .int .u8 a2, .int .u8 a3], .agg #[.int .u8 b0, .int .u8 b1, .int .u8 b2, .int .u8 b3], .agg #[.int .u8 c0, .int .u8 c1, .int .u8 c2, .int .u8 c3]] W (RetE (.bool true) W) := by
  go_enter Try.func6, Try.ntmps6
  go_wp2_with fail
  refine (awake12 _).mono ?_
  rintro e w1 ⟨rfl, hb⟩
  have G0 : w1.heap[W.heap.size]? = some (.cells #[.int .u8 a0, .int .u8 a1, .int .u8 a2, .int .u8 a3] 24 (0, 0)) := Reg.blk_later (by have h := blk_alloc (blk_alloc (blk_new W (.cells #[.int .u8 a0, .int .u8 a1, .int .u8 a2, .int .u8 a3] 24)) (.cells #[.int .u8 b0, .int .u8 b1, .int .u8 b2, .int .u8 b3] 24)) (.cells #[.int .u8 c0, .int .u8 c1, .int .u8 c2, .int .u8 c3] 24); simpa using h) hb
  have G1 : w1.heap[W.heap.size + 1]? = some (.cells #[.int .u8 b0, .int .u8 b1, .int .u8 b2, .int .u8 b3] 24 (0, 0)) := Reg.blk_later (by have h := blk_alloc (blk_new (W.alloc (.cells #[.int .u8 a0, .int .u8 a1, .int .u8 a2, .int .u8 a3] 24)) (.cells #[.int .u8 b0, .int .u8 b1, .int .u8 b2, .int .u8 b3] 24)) (.cells #[.int .u8 c0, .int .u8 c1, .int .u8 c2, .int .u8 c3] 24); simpa using h) hb
  have G2 : w1.heap[W.heap.size + 1 + 1]? = some (.cells #[.int .u8 c0, .int .u8 c1, .int .u8 c2, .int .u8 c3] 24 (0, 0)) := Reg.blk_later (by have h := blk_new ((W.alloc (.cells #[.int .u8 a0, .int .u8 a1, .int .u8 a2, .int .u8 a3] 24)).alloc (.cells #[.int .u8 b0, .int .u8 b1, .int .u8 b2, .int .u8 b3] 24)) (.cells #[.int .u8 c0, .int .u8 c1, .int .u8 c2, .int .u8 c3] 24); simpa using h) hb
  have hE : Ext W w1 := Ext.trans (by (repeat' (first | assumption | exact Ext.refl _ | refine Ext.drewN ?_ | refine Ext.drew ?_ | refine Ext.alloc ?_))) hb
  have HE1 := Lib.hid hE
  clear hE hb
  have c0_0 : w1.cell? ⟨W.heap.size, 0, none⟩ = some (.int .u8 a0) := (blk_cell G0 0).trans rfl
  have a0_0 : ∀ o, (w1.alloc o).cell? ⟨W.heap.size, 0, none⟩ = some (.int .u8 a0) := fun o => (blk_cell (blk_alloc G0 o) 0).trans rfl
  have c0_1 : w1.cell? ⟨W.heap.size, 1, none⟩ = some (.int .u8 a1) := (blk_cell G0 1).trans rfl
  have a0_1 : ∀ o, (w1.alloc o).cell? ⟨W.heap.size, 1, none⟩ = some (.int .u8 a1) := fun o => (blk_cell (blk_alloc G0 o) 1).trans rfl
  have c0_2 : w1.cell? ⟨W.heap.size, 2, none⟩ = some (.int .u8 a2) := (blk_cell G0 2).trans rfl
  have a0_2 : ∀ o, (w1.alloc o).cell? ⟨W.heap.size, 2, none⟩ = some (.int .u8 a2) := fun o => (blk_cell (blk_alloc G0 o) 2).trans rfl
  have c0_3 : w1.cell? ⟨W.heap.size, 3, none⟩ = some (.int .u8 a3) := (blk_cell G0 3).trans rfl
  have a0_3 : ∀ o, (w1.alloc o).cell? ⟨W.heap.size, 3, none⟩ = some (.int .u8 a3) := fun o => (blk_cell (blk_alloc G0 o) 3).trans rfl
  have H0 := Lib.hid G0
  clear G0
  have c1_0 : w1.cell? ⟨W.heap.size + 1, 0, none⟩ = some (.int .u8 b0) := (blk_cell G1 0).trans rfl
  have a1_0 : ∀ o, (w1.alloc o).cell? ⟨W.heap.size + 1, 0, none⟩ = some (.int .u8 b0) := fun o => (blk_cell (blk_alloc G1 o) 0).trans rfl
  have c1_1 : w1.cell? ⟨W.heap.size + 1, 1, none⟩ = some (.int .u8 b1) := (blk_cell G1 1).trans rfl
  have a1_1 : ∀ o, (w1.alloc o).cell? ⟨W.heap.size + 1, 1, none⟩ = some (.int .u8 b1) := fun o => (blk_cell (blk_alloc G1 o) 1).trans rfl
  have c1_2 : w1.cell? ⟨W.heap.size + 1, 2, none⟩ = some (.int .u8 b2) := (blk_cell G1 2).trans rfl
  have a1_2 : ∀ o, (w1.alloc o).cell? ⟨W.heap.size + 1, 2, none⟩ = some (.int .u8 b2) := fun o => (blk_cell (blk_alloc G1 o) 2).trans rfl
  have c1_3 : w1.cell? ⟨W.heap.size + 1, 3, none⟩ = some (.int .u8 b3) := (blk_cell G1 3).trans rfl
  have a1_3 : ∀ o, (w1.alloc o).cell? ⟨W.heap.size + 1, 3, none⟩ = some (.int .u8 b3) := fun o => (blk_cell (blk_alloc G1 o) 3).trans rfl
  have H1 := Lib.hid G1
  clear G1
  have c2_0 : w1.cell? ⟨W.heap.size + 1 + 1, 0, none⟩ = some (.int .u8 c0) := (blk_cell G2 0).trans rfl
  have a2_0 : ∀ o, (w1.alloc o).cell? ⟨W.heap.size + 1 + 1, 0, none⟩ = some (.int .u8 c0) := fun o => (blk_cell (blk_alloc G2 o) 0).trans rfl
  have c2_1 : w1.cell? ⟨W.heap.size + 1 + 1, 1, none⟩ = some (.int .u8 c1) := (blk_cell G2 1).trans rfl
  have a2_1 : ∀ o, (w1.alloc o).cell? ⟨W.heap.size + 1 + 1, 1, none⟩ = some (.int .u8 c1) := fun o => (blk_cell (blk_alloc G2 o) 1).trans rfl
  have c2_2 : w1.cell? ⟨W.heap.size + 1 + 1, 2, none⟩ = some (.int .u8 c2) := (blk_cell G2 2).trans rfl
  have a2_2 : ∀ o, (w1.alloc o).cell? ⟨W.heap.size + 1 + 1, 2, none⟩ = some (.int .u8 c2) := fun o => (blk_cell (blk_alloc G2 o) 2).trans rfl
  have c2_3 : w1.cell? ⟨W.heap.size + 1 + 1, 3, none⟩ = some (.int .u8 c3) := (blk_cell G2 3).trans rfl
  have a2_3 : ∀ o, (w1.alloc o).cell? ⟨W.heap.size + 1 + 1, 3, none⟩ = some (.int .u8 c3) := fun o => (blk_cell (blk_alloc G2 o) 3).trans rfl
  have H2 := Lib.hid G2
  clear G2
  go_wp2_with fail
  refine (F _).mono ?_
  rintro e w2 ⟨rfl, hb⟩
  clear c0_0 a0_0 c0_1 a0_1 c0_2 a0_2 c0_3 a0_3 c1_0 a1_0 c1_1 a1_1 c1_2 a1_2 c1_3 a1_3 c2_0 a2_0 c2_1 a2_1 c2_2 a2_2 c2_3 a2_3
  have G0 := Reg.blk_later H0.out hb
  have G1 := Reg.blk_later H1.out hb
  have G2 := Reg.blk_later H2.out hb
  have hE : Ext W w2 := Ext.trans (by have h := HE1.out; (repeat' (first | assumption | exact Ext.refl _ | refine Ext.drewN ?_ | refine Ext.drew ?_ | refine Ext.alloc ?_))) hb
  have HE2 := Lib.hid hE
  clear hE hb HE1 H0 H1 H2
  have c0_0 : w2.cell? ⟨W.heap.size, 0, none⟩ = some (.int .u8 a0) := (blk_cell G0 0).trans rfl
  have a0_0 : ∀ o, (w2.alloc o).cell? ⟨W.heap.size, 0, none⟩ = some (.int .u8 a0) := fun o => (blk_cell (blk_alloc G0 o) 0).trans rfl
  have c0_1 : w2.cell? ⟨W.heap.size, 1, none⟩ = some (.int .u8 a1) := (blk_cell G0 1).trans rfl
  have a0_1 : ∀ o, (w2.alloc o).cell? ⟨W.heap.size, 1, none⟩ = some (.int .u8 a1) := fun o => (blk_cell (blk_alloc G0 o) 1).trans rfl
  have c0_2 : w2.cell? ⟨W.heap.size, 2, none⟩ = some (.int .u8 a2) := (blk_cell G0 2).trans rfl
  have a0_2 : ∀ o, (w2.alloc o).cell? ⟨W.heap.size, 2, none⟩ = some (.int .u8 a2) := fun o => (blk_cell (blk_alloc G0 o) 2).trans rfl
  have c0_3 : w2.cell? ⟨W.heap.size, 3, none⟩ = some (.int .u8 a3) := (blk_cell G0 3).trans rfl
  have a0_3 : ∀ o, (w2.alloc o).cell? ⟨W.heap.size, 3, none⟩ = some (.int .u8 a3) := fun o => (blk_cell (blk_alloc G0 o) 3).trans rfl
  have H0 := Lib.hid G0
  clear G0
  have c1_0 : w2.cell? ⟨W.heap.size + 1, 0, none⟩ = some (.int .u8 b0) := (blk_cell G1 0).trans rfl
  have a1_0 : ∀ o, (w2.alloc o).cell? ⟨W.heap.size + 1, 0, none⟩ = some (.int .u8 b0) := fun o => (blk_cell (blk_alloc G1 o) 0).trans rfl
  have c1_1 : w2.cell? ⟨W.heap.size + 1, 1, none⟩ = some (.int .u8 b1) := (blk_cell G1 1).trans rfl
  have a1_1 : ∀ o, (w2.alloc o).cell? ⟨W.heap.size + 1, 1, none⟩ = some (.int .u8 b1) := fun o => (blk_cell (blk_alloc G1 o) 1).trans rfl
  have c1_2 : w2.cell? ⟨W.heap.size + 1, 2, none⟩ = some (.int .u8 b2) := (blk_cell G1 2).trans rfl
  have a1_2 : ∀ o, (w2.alloc o).cell? ⟨W.heap.size + 1, 2, none⟩ = some (.int .u8 b2) := fun o => (blk_cell (blk_alloc G1 o) 2).trans rfl
  have c1_3 : w2.cell? ⟨W.heap.size + 1, 3, none⟩ = some (.int .u8 b3) := (blk_cell G1 3).trans rfl
  have a1_3 : ∀ o, (w2.alloc o).cell? ⟨W.heap.size + 1, 3, none⟩ = some (.int .u8 b3) := fun o => (blk_cell (blk_alloc G1 o) 3).trans rfl
  have H1 := Lib.hid G1
  clear G1
  have c2_0 : w2.cell? ⟨W.heap.size + 1 + 1, 0, none⟩ = some (.int .u8 c0) := (blk_cell G2 0).trans rfl
  have a2_0 : ∀ o, (w2.alloc o).cell? ⟨W.heap.size + 1 + 1, 0, none⟩ = some (.int .u8 c0) := fun o => (blk_cell (blk_alloc G2 o) 0).trans rfl
  have c2_1 : w2.cell? ⟨W.heap.size + 1 + 1, 1, none⟩ = some (.int .u8 c1) := (blk_cell G2 1).trans rfl
  have a2_1 : ∀ o, (w2.alloc o).cell? ⟨W.heap.size + 1 + 1, 1, none⟩ = some (.int .u8 c1) := fun o => (blk_cell (blk_alloc G2 o) 1).trans rfl
  have c2_2 : w2.cell? ⟨W.heap.size + 1 + 1, 2, none⟩ = some (.int .u8 c2) := (blk_cell G2 2).trans rfl
  have a2_2 : ∀ o, (w2.alloc o).cell? ⟨W.heap.size + 1 + 1, 2, none⟩ = some (.int .u8 c2) := fun o => (blk_cell (blk_alloc G2 o) 2).trans rfl
  have c2_3 : w2.cell? ⟨W.heap.size + 1 + 1, 3, none⟩ = some (.int .u8 c3) := (blk_cell G2 3).trans rfl
  have a2_3 : ∀ o, (w2.alloc o).cell? ⟨W.heap.size + 1 + 1, 3, none⟩ = some (.int .u8 c3) := fun o => (blk_cell (blk_alloc G2 o) 3).trans rfl
  have H2 := Lib.hid G2
  clear G2
  go_wp2_with fail
  clear c0_0 a0_0 c0_1 a0_1 c0_2 a0_2 c0_3 a0_3 c1_0 a1_0 c1_1 a1_1 c1_2 a1_2 c1_3 a1_3 c2_0 a2_0 c2_1 a2_1 c2_2 a2_2 c2_3 a2_3
  refine Reg.wp_open (fun w' => Ext W w' ∧ w'.heap[W.heap.size]? = some (.cells #[.int .u8 a0, .int .u8 a1, .int .u8 a2, .int .u8 a3] 24 (0, 0)) ∧ w'.heap[W.heap.size + 1]? = some (.cells #[.int .u8 b0, .int .u8 b1, .int .u8 b2, .int .u8 b3] 24 (0, 0)) ∧ w'.heap[W.heap.size + 1 + 1]? = some (.cells #[.int .u8 c0, .int .u8 c1, .int .u8 c2, .int .u8 c3] 24 (0, 0)) ∧ w'.heap[w2.heap.size]? = some (.cells #[.int .u8 x0, .int .u8 x1, .int .u8 x2, .int .u8 x3] 24 (0, 0))) ⟨by have h := HE2.out; (repeat' (first | assumption | exact Ext.refl _ | refine Ext.drewN ?_ | refine Ext.drew ?_ | refine Ext.alloc ?_)), (blk_alloc H0.out _), (blk_alloc H1.out _), (blk_alloc H2.out _), blk_new _ _⟩ (fun w3 hS => ?_)
  clear HE2 H0 H1 H2
  obtain ⟨hE, G0, G1, G2, G3⟩ := hS
  have HE3 := Lib.hid hE
  clear hE
  have c0_0 : w3.cell? ⟨W.heap.size, 0, none⟩ = some (.int .u8 a0) := (blk_cell G0 0).trans rfl
  have c0_1 : w3.cell? ⟨W.heap.size, 1, none⟩ = some (.int .u8 a1) := (blk_cell G0 1).trans rfl
  have c0_2 : w3.cell? ⟨W.heap.size, 2, none⟩ = some (.int .u8 a2) := (blk_cell G0 2).trans rfl
  have c0_3 : w3.cell? ⟨W.heap.size, 3, none⟩ = some (.int .u8 a3) := (blk_cell G0 3).trans rfl
  have H0 := Lib.hid G0
  clear G0
  have c1_0 : w3.cell? ⟨W.heap.size + 1, 0, none⟩ = some (.int .u8 b0) := (blk_cell G1 0).trans rfl
  have c1_1 : w3.cell? ⟨W.heap.size + 1, 1, none⟩ = some (.int .u8 b1) := (blk_cell G1 1).trans rfl
  have c1_2 : w3.cell? ⟨W.heap.size + 1, 2, none⟩ = some (.int .u8 b2) := (blk_cell G1 2).trans rfl
  have c1_3 : w3.cell? ⟨W.heap.size + 1, 3, none⟩ = some (.int .u8 b3) := (blk_cell G1 3).trans rfl
  have H1 := Lib.hid G1
  clear G1
  have c2_0 : w3.cell? ⟨W.heap.size + 1 + 1, 0, none⟩ = some (.int .u8 c0) := (blk_cell G2 0).trans rfl
  have c2_1 : w3.cell? ⟨W.heap.size + 1 + 1, 1, none⟩ = some (.int .u8 c1) := (blk_cell G2 1).trans rfl
  have c2_2 : w3.cell? ⟨W.heap.size + 1 + 1, 2, none⟩ = some (.int .u8 c2) := (blk_cell G2 2).trans rfl
  have c2_3 : w3.cell? ⟨W.heap.size + 1 + 1, 3, none⟩ = some (.int .u8 c3) := (blk_cell G2 3).trans rfl
  have H2 := Lib.hid G2
  clear G2
  have c3_0 : w3.cell? ⟨w2.heap.size, 0, none⟩ = some (.int .u8 x0) := (blk_cell G3 0).trans rfl
  have c3_1 : w3.cell? ⟨w2.heap.size, 1, none⟩ = some (.int .u8 x1) := (blk_cell G3 1).trans rfl
  have c3_2 : w3.cell? ⟨w2.heap.size, 2, none⟩ = some (.int .u8 x2) := (blk_cell G3 2).trans rfl
  have c3_3 : w3.cell? ⟨w2.heap.size, 3, none⟩ = some (.int .u8 x3) := (blk_cell G3 3).trans rfl
  have H3 := Lib.hid G3
  clear G3
  have k0_0 := cell_regrown c0_0
  have k0_1 := cell_regrown c0_1
  have k0_2 := cell_regrown c0_2
  have k0_3 := cell_regrown c0_3
  have k1_0 := cell_regrown c1_0
  have k1_1 := cell_regrown c1_1
  have k1_2 := cell_regrown c1_2
  have k1_3 := cell_regrown c1_3
  have k2_0 := cell_regrown c2_0
  have k2_1 := cell_regrown c2_1
  have k2_2 := cell_regrown c2_2
  have k2_3 := cell_regrown c2_3
  have k3_0 := cell_regrown c3_0
  have k3_1 := cell_regrown c3_1
  have k3_2 := cell_regrown c3_2
  have k3_3 := cell_regrown c3_3
  clear c0_0 c0_1 c0_2 c0_3 c1_0 c1_1 c1_2 c1_3 c2_0 c2_1 c2_2 c2_3 c3_0 c3_1 c3_2 c3_3
  have xJ1 := Reg.call_at J1 w3
  have xG := Reg.call_at G w3
  refine Reg.wp_region_fill (B := w3) 11 (.cells #[.int .u8 0, .int .u8 0, .int .u8 0, .int .u8 0] 24) (.cells #[.int .u8 y0, .int .u8 y1, .int .u8 y2, .int .u8 y3] 24) (by kernel_rfl) (by kernel_rfl) ⟨_, rfl, rfl, fun _ _ => by go_simp⟩ rfl rfl rfl (by kernel_rfl) (Below.refl _ w3) ?_
  simp only [List.take_succ_cons, List.take_zero, List.drop_succ_cons, List.drop_zero]
  (repeat (first | (refine Reg.wpE_big (by rfl) (fun K hK => ?_) (by rfl); go_big_quiet_op; go_big_quiet_on) | (refine Reg.wpE_step (fun K hK => ?_); go_simp; first | (refine hK _ ?_; clear hK K) | (apply Exists.intro; refine ⟨fun _ => ?_, hK _ ?_⟩; (first | exact xJ1 _ _ _ rfl | exact xG _ _ _ rfl); clear hK K))))
  refine Reg.wpE_nil ?_
  intro g3 hg
  refine ⟨fun w hw => ?_, ?_⟩
  · have d0 : w.cell? ⟨g3, 0, none⟩ = some (.int .u8 0) := (blk_cell hw 0).trans rfl
    have d1 : w.cell? ⟨g3, 1, none⟩ = some (.int .u8 0) := (blk_cell hw 1).trans rfl
    have d2 : w.cell? ⟨g3, 2, none⟩ = some (.int .u8 0) := (blk_cell hw 2).trans rfl
    have d3 : w.cell? ⟨g3, 3, none⟩ = some (.int .u8 0) := (blk_cell hw 3).trans rfl
    have f0 : w.frozen? ⟨g3, 0, none⟩ = false := blk_frozen hw 0
    have f1 : w.frozen? ⟨g3, 1, none⟩ = false := blk_frozen hw 1
    have f2 : w.frozen? ⟨g3, 2, none⟩ = false := blk_frozen hw 2
    have f3 : w.frozen? ⟨g3, 3, none⟩ = false := blk_frozen hw 3
    refine ⟨_, ?_, Put.set (Put.set (Put.set (Put.set (Put.refl hw) 0 _) 1 _) 2 _) 3 _⟩
    go_simp
  intro w4 hb hN
  clear xJ1 xG k0_0 k0_1 k0_2 k0_3 k1_0 k1_1 k1_2 k1_3 k2_0 k2_1 k2_2 k2_3 k3_0 k3_1 k3_2 k3_3
  have G0 := Reg.blk_later H0.out hb
  have G1 := Reg.blk_later H1.out hb
  have G2 := Reg.blk_later H2.out hb
  have G3 := Reg.blk_later H3.out hb
  have G4 : w4.heap[g3]? = some (.cells #[.int .u8 y0, .int .u8 y1, .int .u8 y2, .int .u8 y3] 24 (0, 0)) := hN
  have hE : Ext W w4 := Ext.trans HE3.out hb
  have HE4 := Lib.hid hE
  clear hE hb hN hg HE3 H0 H1 H2 H3
  have c0_0 : w4.cell? ⟨W.heap.size, 0, none⟩ = some (.int .u8 a0) := (blk_cell G0 0).trans rfl
  have c0_1 : w4.cell? ⟨W.heap.size, 1, none⟩ = some (.int .u8 a1) := (blk_cell G0 1).trans rfl
  have c0_2 : w4.cell? ⟨W.heap.size, 2, none⟩ = some (.int .u8 a2) := (blk_cell G0 2).trans rfl
  have c0_3 : w4.cell? ⟨W.heap.size, 3, none⟩ = some (.int .u8 a3) := (blk_cell G0 3).trans rfl
  have H0 := Lib.hid G0
  clear G0
  have c1_0 : w4.cell? ⟨W.heap.size + 1, 0, none⟩ = some (.int .u8 b0) := (blk_cell G1 0).trans rfl
  have c1_1 : w4.cell? ⟨W.heap.size + 1, 1, none⟩ = some (.int .u8 b1) := (blk_cell G1 1).trans rfl
  have c1_2 : w4.cell? ⟨W.heap.size + 1, 2, none⟩ = some (.int .u8 b2) := (blk_cell G1 2).trans rfl
  have c1_3 : w4.cell? ⟨W.heap.size + 1, 3, none⟩ = some (.int .u8 b3) := (blk_cell G1 3).trans rfl
  have H1 := Lib.hid G1
  clear G1
  have c2_0 : w4.cell? ⟨W.heap.size + 1 + 1, 0, none⟩ = some (.int .u8 c0) := (blk_cell G2 0).trans rfl
  have c2_1 : w4.cell? ⟨W.heap.size + 1 + 1, 1, none⟩ = some (.int .u8 c1) := (blk_cell G2 1).trans rfl
  have c2_2 : w4.cell? ⟨W.heap.size + 1 + 1, 2, none⟩ = some (.int .u8 c2) := (blk_cell G2 2).trans rfl
  have c2_3 : w4.cell? ⟨W.heap.size + 1 + 1, 3, none⟩ = some (.int .u8 c3) := (blk_cell G2 3).trans rfl
  have H2 := Lib.hid G2
  clear G2
  have c3_0 : w4.cell? ⟨w2.heap.size, 0, none⟩ = some (.int .u8 x0) := (blk_cell G3 0).trans rfl
  have c3_1 : w4.cell? ⟨w2.heap.size, 1, none⟩ = some (.int .u8 x1) := (blk_cell G3 1).trans rfl
  have c3_2 : w4.cell? ⟨w2.heap.size, 2, none⟩ = some (.int .u8 x2) := (blk_cell G3 2).trans rfl
  have c3_3 : w4.cell? ⟨w2.heap.size, 3, none⟩ = some (.int .u8 x3) := (blk_cell G3 3).trans rfl
  have H3 := Lib.hid G3
  clear G3
  have c4_0 : w4.cell? ⟨g3, 0, none⟩ = some (.int .u8 y0) := (blk_cell G4 0).trans rfl
  have c4_1 : w4.cell? ⟨g3, 1, none⟩ = some (.int .u8 y1) := (blk_cell G4 1).trans rfl
  have c4_2 : w4.cell? ⟨g3, 2, none⟩ = some (.int .u8 y2) := (blk_cell G4 2).trans rfl
  have c4_3 : w4.cell? ⟨g3, 3, none⟩ = some (.int .u8 y3) := (blk_cell G4 3).trans rfl
  have H4 := Lib.hid G4
  clear G4
  go_wp2_with fail
  have k0_0 := cell_regrown c0_0
  have k0_1 := cell_regrown c0_1
  have k0_2 := cell_regrown c0_2
  have k0_3 := cell_regrown c0_3
  have k1_0 := cell_regrown c1_0
  have k1_1 := cell_regrown c1_1
  have k1_2 := cell_regrown c1_2
  have k1_3 := cell_regrown c1_3
  have k2_0 := cell_regrown c2_0
  have k2_1 := cell_regrown c2_1
  have k2_2 := cell_regrown c2_2
  have k2_3 := cell_regrown c2_3
  have k3_0 := cell_regrown c3_0
  have k3_1 := cell_regrown c3_1
  have k3_2 := cell_regrown c3_2
  have k3_3 := cell_regrown c3_3
  have k4_0 := cell_regrown c4_0
  have k4_1 := cell_regrown c4_1
  have k4_2 := cell_regrown c4_2
  have k4_3 := cell_regrown c4_3
  clear c0_0 c0_1 c0_2 c0_3 c1_0 c1_1 c1_2 c1_3 c2_0 c2_1 c2_2 c2_3 c3_0 c3_1 c3_2 c3_3 c4_0 c4_1 c4_2 c4_3
  have xJ2 := Reg.call_at J2 w4
  have xH := Reg.call_at H w4
  refine Reg.wp_region_fill (B := w4) 11 (.cells #[.int .u8 0, .int .u8 0, .int .u8 0, .int .u8 0] 24) (.cells #[.int .u8 z0, .int .u8 z1, .int .u8 z2, .int .u8 z3] 24) (by kernel_rfl) (by kernel_rfl) ⟨_, rfl, rfl, fun _ _ => by go_simp⟩ rfl rfl rfl (by kernel_rfl) (Below.refl _ w4) ?_
  simp only [List.take_succ_cons, List.take_zero, List.drop_succ_cons, List.drop_zero]
  (repeat (first | (refine Reg.wpE_big (by rfl) (fun K hK => ?_) (by rfl); go_big_quiet_op; go_big_quiet_on) | (refine Reg.wpE_step (fun K hK => ?_); go_simp; first | (refine hK _ ?_; clear hK K) | (apply Exists.intro; refine ⟨fun _ => ?_, hK _ ?_⟩; (first | exact xJ2 _ _ _ rfl | exact xH _ _ _ rfl); clear hK K))))
  refine Reg.wpE_nil ?_
  intro g4 hg
  refine ⟨fun w hw => ?_, ?_⟩
  · have d0 : w.cell? ⟨g4, 0, none⟩ = some (.int .u8 0) := (blk_cell hw 0).trans rfl
    have d1 : w.cell? ⟨g4, 1, none⟩ = some (.int .u8 0) := (blk_cell hw 1).trans rfl
    have d2 : w.cell? ⟨g4, 2, none⟩ = some (.int .u8 0) := (blk_cell hw 2).trans rfl
    have d3 : w.cell? ⟨g4, 3, none⟩ = some (.int .u8 0) := (blk_cell hw 3).trans rfl
    have f0 : w.frozen? ⟨g4, 0, none⟩ = false := blk_frozen hw 0
    have f1 : w.frozen? ⟨g4, 1, none⟩ = false := blk_frozen hw 1
    have f2 : w.frozen? ⟨g4, 2, none⟩ = false := blk_frozen hw 2
    have f3 : w.frozen? ⟨g4, 3, none⟩ = false := blk_frozen hw 3
    refine ⟨_, ?_, Put.set (Put.set (Put.set (Put.set (Put.refl hw) 0 _) 1 _) 2 _) 3 _⟩
    go_simp
  intro w5 hb hN
  clear xJ2 xH k0_0 k0_1 k0_2 k0_3 k1_0 k1_1 k1_2 k1_3 k2_0 k2_1 k2_2 k2_3 k3_0 k3_1 k3_2 k3_3 k4_0 k4_1 k4_2 k4_3
  have G0 := Reg.blk_later H0.out hb
  have G1 := Reg.blk_later H1.out hb
  have G2 := Reg.blk_later H2.out hb
  have G3 := Reg.blk_later H3.out hb
  have G4 := Reg.blk_later H4.out hb
  have G5 : w5.heap[g4]? = some (.cells #[.int .u8 z0, .int .u8 z1, .int .u8 z2, .int .u8 z3] 24 (0, 0)) := hN
  have hE : Ext W w5 := Ext.trans HE4.out hb
  have HE5 := Lib.hid hE
  clear hE hb hN hg HE4 H0 H1 H2 H3 H4
  have c0_0 : w5.cell? ⟨W.heap.size, 0, none⟩ = some (.int .u8 a0) := (blk_cell G0 0).trans rfl
  have c0_1 : w5.cell? ⟨W.heap.size, 1, none⟩ = some (.int .u8 a1) := (blk_cell G0 1).trans rfl
  have c0_2 : w5.cell? ⟨W.heap.size, 2, none⟩ = some (.int .u8 a2) := (blk_cell G0 2).trans rfl
  have c0_3 : w5.cell? ⟨W.heap.size, 3, none⟩ = some (.int .u8 a3) := (blk_cell G0 3).trans rfl
  have H0 := Lib.hid G0
  clear G0
  have c1_0 : w5.cell? ⟨W.heap.size + 1, 0, none⟩ = some (.int .u8 b0) := (blk_cell G1 0).trans rfl
  have c1_1 : w5.cell? ⟨W.heap.size + 1, 1, none⟩ = some (.int .u8 b1) := (blk_cell G1 1).trans rfl
  have c1_2 : w5.cell? ⟨W.heap.size + 1, 2, none⟩ = some (.int .u8 b2) := (blk_cell G1 2).trans rfl
  have c1_3 : w5.cell? ⟨W.heap.size + 1, 3, none⟩ = some (.int .u8 b3) := (blk_cell G1 3).trans rfl
  have H1 := Lib.hid G1
  clear G1
  have c2_0 : w5.cell? ⟨W.heap.size + 1 + 1, 0, none⟩ = some (.int .u8 c0) := (blk_cell G2 0).trans rfl
  have c2_1 : w5.cell? ⟨W.heap.size + 1 + 1, 1, none⟩ = some (.int .u8 c1) := (blk_cell G2 1).trans rfl
  have c2_2 : w5.cell? ⟨W.heap.size + 1 + 1, 2, none⟩ = some (.int .u8 c2) := (blk_cell G2 2).trans rfl
  have c2_3 : w5.cell? ⟨W.heap.size + 1 + 1, 3, none⟩ = some (.int .u8 c3) := (blk_cell G2 3).trans rfl
  have H2 := Lib.hid G2
  clear G2
  have c3_0 : w5.cell? ⟨w2.heap.size, 0, none⟩ = some (.int .u8 x0) := (blk_cell G3 0).trans rfl
  have c3_1 : w5.cell? ⟨w2.heap.size, 1, none⟩ = some (.int .u8 x1) := (blk_cell G3 1).trans rfl
  have c3_2 : w5.cell? ⟨w2.heap.size, 2, none⟩ = some (.int .u8 x2) := (blk_cell G3 2).trans rfl
  have c3_3 : w5.cell? ⟨w2.heap.size, 3, none⟩ = some (.int .u8 x3) := (blk_cell G3 3).trans rfl
  have H3 := Lib.hid G3
  clear G3
  have c4_0 : w5.cell? ⟨g3, 0, none⟩ = some (.int .u8 y0) := (blk_cell G4 0).trans rfl
  have c4_1 : w5.cell? ⟨g3, 1, none⟩ = some (.int .u8 y1) := (blk_cell G4 1).trans rfl
  have c4_2 : w5.cell? ⟨g3, 2, none⟩ = some (.int .u8 y2) := (blk_cell G4 2).trans rfl
  have c4_3 : w5.cell? ⟨g3, 3, none⟩ = some (.int .u8 y3) := (blk_cell G4 3).trans rfl
  have H4 := Lib.hid G4
  clear G4
  have c5_0 : w5.cell? ⟨g4, 0, none⟩ = some (.int .u8 z0) := (blk_cell G5 0).trans rfl
  have c5_1 : w5.cell? ⟨g4, 1, none⟩ = some (.int .u8 z1) := (blk_cell G5 1).trans rfl
  have c5_2 : w5.cell? ⟨g4, 2, none⟩ = some (.int .u8 z2) := (blk_cell G5 2).trans rfl
  have c5_3 : w5.cell? ⟨g4, 3, none⟩ = some (.int .u8 z3) := (blk_cell G5 3).trans rfl
  have H5 := Lib.hid G5
  clear G5
  go_wp2_with fail
  have k0_0 := cell_regrown c0_0
  have k0_1 := cell_regrown c0_1
  have k0_2 := cell_regrown c0_2
  have k0_3 := cell_regrown c0_3
  have k1_0 := cell_regrown c1_0
  have k1_1 := cell_regrown c1_1
  have k1_2 := cell_regrown c1_2
  have k1_3 := cell_regrown c1_3
  have k2_0 := cell_regrown c2_0
  have k2_1 := cell_regrown c2_1
  have k2_2 := cell_regrown c2_2
  have k2_3 := cell_regrown c2_3
  have k3_0 := cell_regrown c3_0
  have k3_1 := cell_regrown c3_1
  have k3_2 := cell_regrown c3_2
  have k3_3 := cell_regrown c3_3
  have k4_0 := cell_regrown c4_0
  have k4_1 := cell_regrown c4_1
  have k4_2 := cell_regrown c4_2
  have k4_3 := cell_regrown c4_3
  have k5_0 := cell_regrown c5_0
  have k5_1 := cell_regrown c5_1
  have k5_2 := cell_regrown c5_2
  have k5_3 := cell_regrown c5_3
  clear c0_0 c0_1 c0_2 c0_3 c1_0 c1_1 c1_2 c1_3 c2_0 c2_1 c2_2 c2_3 c3_0 c3_1 c3_2 c3_3 c4_0 c4_1 c4_2 c4_3 c5_0 c5_1 c5_2 c5_3
  have xJX := Reg.call_cl JX w5
  have xJZ := Reg.call_cl JZ w5
  refine Reg.wp_region_reads (B := w5) (by kernel_rfl) (by kernel_rfl) (Below.refl _ w5) ?_
  (repeat (first | go_big_quiet_step (first | exact xJX _ _ _ rfl | exact xJZ _ _ _ rfl) | quiet_step (first | exact xJX _ _ _ rfl | exact xJZ _ _ _ rfl)))
  refine wpQuiet_nil ?_
  intro _ hw'
  obtain ⟨⟨dq, osq⟩, hw''⟩ := hw'
  subst hw''
  have hE := HE5.out
  go_wp2
  go_ret
  exact ⟨rfl, Ext.trans hE (Ext.of_cl w5 dq osq)⟩
set_option maxRecDepth 100000 in
set_option maxHeartbeats 40000000 in
theorem core2 {W : World} {a b a0 a1 a2 a3 b0 b1 b2 b3 c0 c1 c2 c3 x0 x1 x2 x3 y0 y1 y2 y3 z0 z1 z2 z3 j0 j1 j2 j3 k0 k1 k2 k3 m0 m1 m2 m3 e : Int} (F : ∀ w : World, Calls Try.prog 13 #[.int .i64 2, .int .u32 a, .int .u32 b, .agg #[.int .u8 a0, .int .u8 a1, .int .u8 a2, .int .u8 a3], .agg #[.int .u8 b0, .int .u8 b1, .int .u8 b2, .int .u8 b3]] w (RetE (.tuple #[.agg #[.int .u8 x0, .int .u8 x1, .int .u8 x2, .int .u8 x3], .int .i64 e]) w)) (J1 : ∀ w : World, Calls Try.prog 18 #[.agg #[.int .u8 a0, .int .u8 a1, .int .u8 a2, .int .u8 a3], .agg #[.int .u8 c0, .int .u8 c1, .int .u8 c2, .int .u8 c3]] w (RetE (.agg #[.int .u8 j0, .int .u8 j1, .int .u8 j2, .int .u8 j3]) w)) (G : ∀ w : World, Calls Try.prog 13 #[.int .i64 2, .int .u32 a, .int .u32 b, .agg #[.int .u8 j0, .int .u8 j1, .int .u8 j2, .int .u8 j3], .agg #[.int .u8 b0, .int .u8 b1, .int .u8 b2, .int .u8 b3]] w (RetE (.tuple #[.agg #[.int .u8 y0, .int .u8 y1, .int .u8 y2, .int .u8 y3], .int .i64 e]) w)) (J2 : ∀ w : World, Calls Try.prog 18 #[.agg #[.int .u8 b0, .int .u8 b1, .int .u8 b2, .int .u8 b3], .agg #[.int .u8 c0, .int .u8 c1, .int .u8 c2, .int .u8 c3]] w (RetE (.agg #[.int .u8 k0, .int .u8 k1, .int .u8 k2, .int .u8 k3]) w)) (H : ∀ w : World, Calls Try.prog 13 #[.int .i64 2, .int .u32 a, .int .u32 b, .agg #[.int .u8 a0, .int .u8 a1, .int .u8 a2, .int .u8 a3], .agg #[.int .u8 k0, .int .u8 k1, .int .u8 k2, .int .u8 k3]] w (RetE (.tuple #[.agg #[.int .u8 z0, .int .u8 z1, .int .u8 z2, .int .u8 z3], .int .i64 e]) w)) (JX : ∀ w : World, Calls Try.prog 18 #[.agg #[.int .u8 x0, .int .u8 x1, .int .u8 x2, .int .u8 x3], .agg #[.int .u8 y0, .int .u8 y1, .int .u8 y2, .int .u8 y3]] w (RetE (.agg #[.int .u8 y0, .int .u8 y1, .int .u8 y2, .int .u8 y3]) w)) (JZ : ∀ w : World, Calls Try.prog 18 #[.agg #[.int .u8 x0, .int .u8 x1, .int .u8 x2, .int .u8 x3], .agg #[.int .u8 z0, .int .u8 z1, .int .u8 z2, .int .u8 z3]] w (RetE (.agg #[.int .u8 m0, .int .u8 m1, .int .u8 m2, .int .u8 m3]) w)) (hne : (m0 == z0 && (m1 == z1 && (m2 == z2 && m3 == z3))) = false) : Calls Try.prog 6 #[.int .i64 2, .int .u32 a, .int .u32 b, .agg #[.int .u8 a0, .int .u8 a1, .int .u8 a2, .int .u8 a3], .agg #[.int .u8 b0, .int .u8 b1, .int .u8 b2, .int .u8 b3], .agg #[.int .u8 c0, .int .u8 c1, .int .u8 c2, .int .u8 c3]] W (RetE (.bool true) W) := by
  go_enter Try.func6, Try.ntmps6
  go_wp2_with fail
  refine (awake12 _).mono ?_
  rintro e w1 ⟨rfl, hb⟩
  have G0 : w1.heap[W.heap.size]? = some (.cells #[.int .u8 a0, .int .u8 a1, .int .u8 a2, .int .u8 a3] 24 (0, 0)) := Reg.blk_later (by have h := blk_alloc (blk_alloc (blk_new W (.cells #[.int .u8 a0, .int .u8 a1, .int .u8 a2, .int .u8 a3] 24)) (.cells #[.int .u8 b0, .int .u8 b1, .int .u8 b2, .int .u8 b3] 24)) (.cells #[.int .u8 c0, .int .u8 c1, .int .u8 c2, .int .u8 c3] 24); simpa using h) hb
  have G1 : w1.heap[W.heap.size + 1]? = some (.cells #[.int .u8 b0, .int .u8 b1, .int .u8 b2, .int .u8 b3] 24 (0, 0)) := Reg.blk_later (by have h := blk_alloc (blk_new (W.alloc (.cells #[.int .u8 a0, .int .u8 a1, .int .u8 a2, .int .u8 a3] 24)) (.cells #[.int .u8 b0, .int .u8 b1, .int .u8 b2, .int .u8 b3] 24)) (.cells #[.int .u8 c0, .int .u8 c1, .int .u8 c2, .int .u8 c3] 24); simpa using h) hb
  have G2 : w1.heap[W.heap.size + 1 + 1]? = some (.cells #[.int .u8 c0, .int .u8 c1, .int .u8 c2, .int .u8 c3] 24 (0, 0)) := Reg.blk_later (by have h := blk_new ((W.alloc (.cells #[.int .u8 a0, .int .u8 a1, .int .u8 a2, .int .u8 a3] 24)).alloc (.cells #[.int .u8 b0, .int .u8 b1, .int .u8 b2, .int .u8 b3] 24)) (.cells #[.int .u8 c0, .int .u8 c1, .int .u8 c2, .int .u8 c3] 24); simpa using h) hb
  have hE : Ext W w1 := Ext.trans (by (repeat' (first | assumption | exact Ext.refl _ | refine Ext.drewN ?_ | refine Ext.drew ?_ | refine Ext.alloc ?_))) hb
  have HE1 := Lib.hid hE
  clear hE hb
  have c0_0 : w1.cell? ⟨W.heap.size, 0, none⟩ = some (.int .u8 a0) := (blk_cell G0 0).trans rfl
  have a0_0 : ∀ o, (w1.alloc o).cell? ⟨W.heap.size, 0, none⟩ = some (.int .u8 a0) := fun o => (blk_cell (blk_alloc G0 o) 0).trans rfl
  have c0_1 : w1.cell? ⟨W.heap.size, 1, none⟩ = some (.int .u8 a1) := (blk_cell G0 1).trans rfl
  have a0_1 : ∀ o, (w1.alloc o).cell? ⟨W.heap.size, 1, none⟩ = some (.int .u8 a1) := fun o => (blk_cell (blk_alloc G0 o) 1).trans rfl
  have c0_2 : w1.cell? ⟨W.heap.size, 2, none⟩ = some (.int .u8 a2) := (blk_cell G0 2).trans rfl
  have a0_2 : ∀ o, (w1.alloc o).cell? ⟨W.heap.size, 2, none⟩ = some (.int .u8 a2) := fun o => (blk_cell (blk_alloc G0 o) 2).trans rfl
  have c0_3 : w1.cell? ⟨W.heap.size, 3, none⟩ = some (.int .u8 a3) := (blk_cell G0 3).trans rfl
  have a0_3 : ∀ o, (w1.alloc o).cell? ⟨W.heap.size, 3, none⟩ = some (.int .u8 a3) := fun o => (blk_cell (blk_alloc G0 o) 3).trans rfl
  have H0 := Lib.hid G0
  clear G0
  have c1_0 : w1.cell? ⟨W.heap.size + 1, 0, none⟩ = some (.int .u8 b0) := (blk_cell G1 0).trans rfl
  have a1_0 : ∀ o, (w1.alloc o).cell? ⟨W.heap.size + 1, 0, none⟩ = some (.int .u8 b0) := fun o => (blk_cell (blk_alloc G1 o) 0).trans rfl
  have c1_1 : w1.cell? ⟨W.heap.size + 1, 1, none⟩ = some (.int .u8 b1) := (blk_cell G1 1).trans rfl
  have a1_1 : ∀ o, (w1.alloc o).cell? ⟨W.heap.size + 1, 1, none⟩ = some (.int .u8 b1) := fun o => (blk_cell (blk_alloc G1 o) 1).trans rfl
  have c1_2 : w1.cell? ⟨W.heap.size + 1, 2, none⟩ = some (.int .u8 b2) := (blk_cell G1 2).trans rfl
  have a1_2 : ∀ o, (w1.alloc o).cell? ⟨W.heap.size + 1, 2, none⟩ = some (.int .u8 b2) := fun o => (blk_cell (blk_alloc G1 o) 2).trans rfl
  have c1_3 : w1.cell? ⟨W.heap.size + 1, 3, none⟩ = some (.int .u8 b3) := (blk_cell G1 3).trans rfl
  have a1_3 : ∀ o, (w1.alloc o).cell? ⟨W.heap.size + 1, 3, none⟩ = some (.int .u8 b3) := fun o => (blk_cell (blk_alloc G1 o) 3).trans rfl
  have H1 := Lib.hid G1
  clear G1
  have c2_0 : w1.cell? ⟨W.heap.size + 1 + 1, 0, none⟩ = some (.int .u8 c0) := (blk_cell G2 0).trans rfl
  have a2_0 : ∀ o, (w1.alloc o).cell? ⟨W.heap.size + 1 + 1, 0, none⟩ = some (.int .u8 c0) := fun o => (blk_cell (blk_alloc G2 o) 0).trans rfl
  have c2_1 : w1.cell? ⟨W.heap.size + 1 + 1, 1, none⟩ = some (.int .u8 c1) := (blk_cell G2 1).trans rfl
  have a2_1 : ∀ o, (w1.alloc o).cell? ⟨W.heap.size + 1 + 1, 1, none⟩ = some (.int .u8 c1) := fun o => (blk_cell (blk_alloc G2 o) 1).trans rfl
  have c2_2 : w1.cell? ⟨W.heap.size + 1 + 1, 2, none⟩ = some (.int .u8 c2) := (blk_cell G2 2).trans rfl
  have a2_2 : ∀ o, (w1.alloc o).cell? ⟨W.heap.size + 1 + 1, 2, none⟩ = some (.int .u8 c2) := fun o => (blk_cell (blk_alloc G2 o) 2).trans rfl
  have c2_3 : w1.cell? ⟨W.heap.size + 1 + 1, 3, none⟩ = some (.int .u8 c3) := (blk_cell G2 3).trans rfl
  have a2_3 : ∀ o, (w1.alloc o).cell? ⟨W.heap.size + 1 + 1, 3, none⟩ = some (.int .u8 c3) := fun o => (blk_cell (blk_alloc G2 o) 3).trans rfl
  have H2 := Lib.hid G2
  clear G2
  go_wp2_with fail
  refine (F _).mono ?_
  rintro e w2 ⟨rfl, hb⟩
  clear c0_0 a0_0 c0_1 a0_1 c0_2 a0_2 c0_3 a0_3 c1_0 a1_0 c1_1 a1_1 c1_2 a1_2 c1_3 a1_3 c2_0 a2_0 c2_1 a2_1 c2_2 a2_2 c2_3 a2_3
  have G0 := Reg.blk_later H0.out hb
  have G1 := Reg.blk_later H1.out hb
  have G2 := Reg.blk_later H2.out hb
  have hE : Ext W w2 := Ext.trans (by have h := HE1.out; (repeat' (first | assumption | exact Ext.refl _ | refine Ext.drewN ?_ | refine Ext.drew ?_ | refine Ext.alloc ?_))) hb
  have HE2 := Lib.hid hE
  clear hE hb HE1 H0 H1 H2
  have c0_0 : w2.cell? ⟨W.heap.size, 0, none⟩ = some (.int .u8 a0) := (blk_cell G0 0).trans rfl
  have a0_0 : ∀ o, (w2.alloc o).cell? ⟨W.heap.size, 0, none⟩ = some (.int .u8 a0) := fun o => (blk_cell (blk_alloc G0 o) 0).trans rfl
  have c0_1 : w2.cell? ⟨W.heap.size, 1, none⟩ = some (.int .u8 a1) := (blk_cell G0 1).trans rfl
  have a0_1 : ∀ o, (w2.alloc o).cell? ⟨W.heap.size, 1, none⟩ = some (.int .u8 a1) := fun o => (blk_cell (blk_alloc G0 o) 1).trans rfl
  have c0_2 : w2.cell? ⟨W.heap.size, 2, none⟩ = some (.int .u8 a2) := (blk_cell G0 2).trans rfl
  have a0_2 : ∀ o, (w2.alloc o).cell? ⟨W.heap.size, 2, none⟩ = some (.int .u8 a2) := fun o => (blk_cell (blk_alloc G0 o) 2).trans rfl
  have c0_3 : w2.cell? ⟨W.heap.size, 3, none⟩ = some (.int .u8 a3) := (blk_cell G0 3).trans rfl
  have a0_3 : ∀ o, (w2.alloc o).cell? ⟨W.heap.size, 3, none⟩ = some (.int .u8 a3) := fun o => (blk_cell (blk_alloc G0 o) 3).trans rfl
  have H0 := Lib.hid G0
  clear G0
  have c1_0 : w2.cell? ⟨W.heap.size + 1, 0, none⟩ = some (.int .u8 b0) := (blk_cell G1 0).trans rfl
  have a1_0 : ∀ o, (w2.alloc o).cell? ⟨W.heap.size + 1, 0, none⟩ = some (.int .u8 b0) := fun o => (blk_cell (blk_alloc G1 o) 0).trans rfl
  have c1_1 : w2.cell? ⟨W.heap.size + 1, 1, none⟩ = some (.int .u8 b1) := (blk_cell G1 1).trans rfl
  have a1_1 : ∀ o, (w2.alloc o).cell? ⟨W.heap.size + 1, 1, none⟩ = some (.int .u8 b1) := fun o => (blk_cell (blk_alloc G1 o) 1).trans rfl
  have c1_2 : w2.cell? ⟨W.heap.size + 1, 2, none⟩ = some (.int .u8 b2) := (blk_cell G1 2).trans rfl
  have a1_2 : ∀ o, (w2.alloc o).cell? ⟨W.heap.size + 1, 2, none⟩ = some (.int .u8 b2) := fun o => (blk_cell (blk_alloc G1 o) 2).trans rfl
  have c1_3 : w2.cell? ⟨W.heap.size + 1, 3, none⟩ = some (.int .u8 b3) := (blk_cell G1 3).trans rfl
  have a1_3 : ∀ o, (w2.alloc o).cell? ⟨W.heap.size + 1, 3, none⟩ = some (.int .u8 b3) := fun o => (blk_cell (blk_alloc G1 o) 3).trans rfl
  have H1 := Lib.hid G1
  clear G1
  have c2_0 : w2.cell? ⟨W.heap.size + 1 + 1, 0, none⟩ = some (.int .u8 c0) := (blk_cell G2 0).trans rfl
  have a2_0 : ∀ o, (w2.alloc o).cell? ⟨W.heap.size + 1 + 1, 0, none⟩ = some (.int .u8 c0) := fun o => (blk_cell (blk_alloc G2 o) 0).trans rfl
  have c2_1 : w2.cell? ⟨W.heap.size + 1 + 1, 1, none⟩ = some (.int .u8 c1) := (blk_cell G2 1).trans rfl
  have a2_1 : ∀ o, (w2.alloc o).cell? ⟨W.heap.size + 1 + 1, 1, none⟩ = some (.int .u8 c1) := fun o => (blk_cell (blk_alloc G2 o) 1).trans rfl
  have c2_2 : w2.cell? ⟨W.heap.size + 1 + 1, 2, none⟩ = some (.int .u8 c2) := (blk_cell G2 2).trans rfl
  have a2_2 : ∀ o, (w2.alloc o).cell? ⟨W.heap.size + 1 + 1, 2, none⟩ = some (.int .u8 c2) := fun o => (blk_cell (blk_alloc G2 o) 2).trans rfl
  have c2_3 : w2.cell? ⟨W.heap.size + 1 + 1, 3, none⟩ = some (.int .u8 c3) := (blk_cell G2 3).trans rfl
  have a2_3 : ∀ o, (w2.alloc o).cell? ⟨W.heap.size + 1 + 1, 3, none⟩ = some (.int .u8 c3) := fun o => (blk_cell (blk_alloc G2 o) 3).trans rfl
  have H2 := Lib.hid G2
  clear G2
  go_wp2_with fail
  clear c0_0 a0_0 c0_1 a0_1 c0_2 a0_2 c0_3 a0_3 c1_0 a1_0 c1_1 a1_1 c1_2 a1_2 c1_3 a1_3 c2_0 a2_0 c2_1 a2_1 c2_2 a2_2 c2_3 a2_3
  refine Reg.wp_open (fun w' => Ext W w' ∧ w'.heap[W.heap.size]? = some (.cells #[.int .u8 a0, .int .u8 a1, .int .u8 a2, .int .u8 a3] 24 (0, 0)) ∧ w'.heap[W.heap.size + 1]? = some (.cells #[.int .u8 b0, .int .u8 b1, .int .u8 b2, .int .u8 b3] 24 (0, 0)) ∧ w'.heap[W.heap.size + 1 + 1]? = some (.cells #[.int .u8 c0, .int .u8 c1, .int .u8 c2, .int .u8 c3] 24 (0, 0)) ∧ w'.heap[w2.heap.size]? = some (.cells #[.int .u8 x0, .int .u8 x1, .int .u8 x2, .int .u8 x3] 24 (0, 0))) ⟨by have h := HE2.out; (repeat' (first | assumption | exact Ext.refl _ | refine Ext.drewN ?_ | refine Ext.drew ?_ | refine Ext.alloc ?_)), (blk_alloc H0.out _), (blk_alloc H1.out _), (blk_alloc H2.out _), blk_new _ _⟩ (fun w3 hS => ?_)
  clear HE2 H0 H1 H2
  obtain ⟨hE, G0, G1, G2, G3⟩ := hS
  have HE3 := Lib.hid hE
  clear hE
  have c0_0 : w3.cell? ⟨W.heap.size, 0, none⟩ = some (.int .u8 a0) := (blk_cell G0 0).trans rfl
  have c0_1 : w3.cell? ⟨W.heap.size, 1, none⟩ = some (.int .u8 a1) := (blk_cell G0 1).trans rfl
  have c0_2 : w3.cell? ⟨W.heap.size, 2, none⟩ = some (.int .u8 a2) := (blk_cell G0 2).trans rfl
  have c0_3 : w3.cell? ⟨W.heap.size, 3, none⟩ = some (.int .u8 a3) := (blk_cell G0 3).trans rfl
  have H0 := Lib.hid G0
  clear G0
  have c1_0 : w3.cell? ⟨W.heap.size + 1, 0, none⟩ = some (.int .u8 b0) := (blk_cell G1 0).trans rfl
  have c1_1 : w3.cell? ⟨W.heap.size + 1, 1, none⟩ = some (.int .u8 b1) := (blk_cell G1 1).trans rfl
  have c1_2 : w3.cell? ⟨W.heap.size + 1, 2, none⟩ = some (.int .u8 b2) := (blk_cell G1 2).trans rfl
  have c1_3 : w3.cell? ⟨W.heap.size + 1, 3, none⟩ = some (.int .u8 b3) := (blk_cell G1 3).trans rfl
  have H1 := Lib.hid G1
  clear G1
  have c2_0 : w3.cell? ⟨W.heap.size + 1 + 1, 0, none⟩ = some (.int .u8 c0) := (blk_cell G2 0).trans rfl
  have c2_1 : w3.cell? ⟨W.heap.size + 1 + 1, 1, none⟩ = some (.int .u8 c1) := (blk_cell G2 1).trans rfl
  have c2_2 : w3.cell? ⟨W.heap.size + 1 + 1, 2, none⟩ = some (.int .u8 c2) := (blk_cell G2 2).trans rfl
  have c2_3 : w3.cell? ⟨W.heap.size + 1 + 1, 3, none⟩ = some (.int .u8 c3) := (blk_cell G2 3).trans rfl
  have H2 := Lib.hid G2
  clear G2
  have c3_0 : w3.cell? ⟨w2.heap.size, 0, none⟩ = some (.int .u8 x0) := (blk_cell G3 0).trans rfl
  have c3_1 : w3.cell? ⟨w2.heap.size, 1, none⟩ = some (.int .u8 x1) := (blk_cell G3 1).trans rfl
  have c3_2 : w3.cell? ⟨w2.heap.size, 2, none⟩ = some (.int .u8 x2) := (blk_cell G3 2).trans rfl
  have c3_3 : w3.cell? ⟨w2.heap.size, 3, none⟩ = some (.int .u8 x3) := (blk_cell G3 3).trans rfl
  have H3 := Lib.hid G3
  clear G3
  have k0_0 := cell_regrown c0_0
  have k0_1 := cell_regrown c0_1
  have k0_2 := cell_regrown c0_2
  have k0_3 := cell_regrown c0_3
  have k1_0 := cell_regrown c1_0
  have k1_1 := cell_regrown c1_1
  have k1_2 := cell_regrown c1_2
  have k1_3 := cell_regrown c1_3
  have k2_0 := cell_regrown c2_0
  have k2_1 := cell_regrown c2_1
  have k2_2 := cell_regrown c2_2
  have k2_3 := cell_regrown c2_3
  have k3_0 := cell_regrown c3_0
  have k3_1 := cell_regrown c3_1
  have k3_2 := cell_regrown c3_2
  have k3_3 := cell_regrown c3_3
  clear c0_0 c0_1 c0_2 c0_3 c1_0 c1_1 c1_2 c1_3 c2_0 c2_1 c2_2 c2_3 c3_0 c3_1 c3_2 c3_3
  have xJ1 := Reg.call_at J1 w3
  have xG := Reg.call_at G w3
  refine Reg.wp_region_fill (B := w3) 11 (.cells #[.int .u8 0, .int .u8 0, .int .u8 0, .int .u8 0] 24) (.cells #[.int .u8 y0, .int .u8 y1, .int .u8 y2, .int .u8 y3] 24) (by kernel_rfl) (by kernel_rfl) ⟨_, rfl, rfl, fun _ _ => by go_simp⟩ rfl rfl rfl (by kernel_rfl) (Below.refl _ w3) ?_
  simp only [List.take_succ_cons, List.take_zero, List.drop_succ_cons, List.drop_zero]
  (repeat (first | (refine Reg.wpE_big (by rfl) (fun K hK => ?_) (by rfl); go_big_quiet_op; go_big_quiet_on) | (refine Reg.wpE_step (fun K hK => ?_); go_simp; first | (refine hK _ ?_; clear hK K) | (apply Exists.intro; refine ⟨fun _ => ?_, hK _ ?_⟩; (first | exact xJ1 _ _ _ rfl | exact xG _ _ _ rfl); clear hK K))))
  refine Reg.wpE_nil ?_
  intro g3 hg
  refine ⟨fun w hw => ?_, ?_⟩
  · have d0 : w.cell? ⟨g3, 0, none⟩ = some (.int .u8 0) := (blk_cell hw 0).trans rfl
    have d1 : w.cell? ⟨g3, 1, none⟩ = some (.int .u8 0) := (blk_cell hw 1).trans rfl
    have d2 : w.cell? ⟨g3, 2, none⟩ = some (.int .u8 0) := (blk_cell hw 2).trans rfl
    have d3 : w.cell? ⟨g3, 3, none⟩ = some (.int .u8 0) := (blk_cell hw 3).trans rfl
    have f0 : w.frozen? ⟨g3, 0, none⟩ = false := blk_frozen hw 0
    have f1 : w.frozen? ⟨g3, 1, none⟩ = false := blk_frozen hw 1
    have f2 : w.frozen? ⟨g3, 2, none⟩ = false := blk_frozen hw 2
    have f3 : w.frozen? ⟨g3, 3, none⟩ = false := blk_frozen hw 3
    refine ⟨_, ?_, Put.set (Put.set (Put.set (Put.set (Put.refl hw) 0 _) 1 _) 2 _) 3 _⟩
    go_simp
  intro w4 hb hN
  clear xJ1 xG k0_0 k0_1 k0_2 k0_3 k1_0 k1_1 k1_2 k1_3 k2_0 k2_1 k2_2 k2_3 k3_0 k3_1 k3_2 k3_3
  have G0 := Reg.blk_later H0.out hb
  have G1 := Reg.blk_later H1.out hb
  have G2 := Reg.blk_later H2.out hb
  have G3 := Reg.blk_later H3.out hb
  have G4 : w4.heap[g3]? = some (.cells #[.int .u8 y0, .int .u8 y1, .int .u8 y2, .int .u8 y3] 24 (0, 0)) := hN
  have hE : Ext W w4 := Ext.trans HE3.out hb
  have HE4 := Lib.hid hE
  clear hE hb hN hg HE3 H0 H1 H2 H3
  have c0_0 : w4.cell? ⟨W.heap.size, 0, none⟩ = some (.int .u8 a0) := (blk_cell G0 0).trans rfl
  have c0_1 : w4.cell? ⟨W.heap.size, 1, none⟩ = some (.int .u8 a1) := (blk_cell G0 1).trans rfl
  have c0_2 : w4.cell? ⟨W.heap.size, 2, none⟩ = some (.int .u8 a2) := (blk_cell G0 2).trans rfl
  have c0_3 : w4.cell? ⟨W.heap.size, 3, none⟩ = some (.int .u8 a3) := (blk_cell G0 3).trans rfl
  have H0 := Lib.hid G0
  clear G0
  have c1_0 : w4.cell? ⟨W.heap.size + 1, 0, none⟩ = some (.int .u8 b0) := (blk_cell G1 0).trans rfl
  have c1_1 : w4.cell? ⟨W.heap.size + 1, 1, none⟩ = some (.int .u8 b1) := (blk_cell G1 1).trans rfl
  have c1_2 : w4.cell? ⟨W.heap.size + 1, 2, none⟩ = some (.int .u8 b2) := (blk_cell G1 2).trans rfl
  have c1_3 : w4.cell? ⟨W.heap.size + 1, 3, none⟩ = some (.int .u8 b3) := (blk_cell G1 3).trans rfl
  have H1 := Lib.hid G1
  clear G1
  have c2_0 : w4.cell? ⟨W.heap.size + 1 + 1, 0, none⟩ = some (.int .u8 c0) := (blk_cell G2 0).trans rfl
  have c2_1 : w4.cell? ⟨W.heap.size + 1 + 1, 1, none⟩ = some (.int .u8 c1) := (blk_cell G2 1).trans rfl
  have c2_2 : w4.cell? ⟨W.heap.size + 1 + 1, 2, none⟩ = some (.int .u8 c2) := (blk_cell G2 2).trans rfl
  have c2_3 : w4.cell? ⟨W.heap.size + 1 + 1, 3, none⟩ = some (.int .u8 c3) := (blk_cell G2 3).trans rfl
  have H2 := Lib.hid G2
  clear G2
  have c3_0 : w4.cell? ⟨w2.heap.size, 0, none⟩ = some (.int .u8 x0) := (blk_cell G3 0).trans rfl
  have c3_1 : w4.cell? ⟨w2.heap.size, 1, none⟩ = some (.int .u8 x1) := (blk_cell G3 1).trans rfl
  have c3_2 : w4.cell? ⟨w2.heap.size, 2, none⟩ = some (.int .u8 x2) := (blk_cell G3 2).trans rfl
  have c3_3 : w4.cell? ⟨w2.heap.size, 3, none⟩ = some (.int .u8 x3) := (blk_cell G3 3).trans rfl
  have H3 := Lib.hid G3
  clear G3
  have c4_0 : w4.cell? ⟨g3, 0, none⟩ = some (.int .u8 y0) := (blk_cell G4 0).trans rfl
  have c4_1 : w4.cell? ⟨g3, 1, none⟩ = some (.int .u8 y1) := (blk_cell G4 1).trans rfl
  have c4_2 : w4.cell? ⟨g3, 2, none⟩ = some (.int .u8 y2) := (blk_cell G4 2).trans rfl
  have c4_3 : w4.cell? ⟨g3, 3, none⟩ = some (.int .u8 y3) := (blk_cell G4 3).trans rfl
  have H4 := Lib.hid G4
  clear G4
  go_wp2_with fail
  have k0_0 := cell_regrown c0_0
  have k0_1 := cell_regrown c0_1
  have k0_2 := cell_regrown c0_2
  have k0_3 := cell_regrown c0_3
  have k1_0 := cell_regrown c1_0
  have k1_1 := cell_regrown c1_1
  have k1_2 := cell_regrown c1_2
  have k1_3 := cell_regrown c1_3
  have k2_0 := cell_regrown c2_0
  have k2_1 := cell_regrown c2_1
  have k2_2 := cell_regrown c2_2
  have k2_3 := cell_regrown c2_3
  have k3_0 := cell_regrown c3_0
  have k3_1 := cell_regrown c3_1
  have k3_2 := cell_regrown c3_2
  have k3_3 := cell_regrown c3_3
  have k4_0 := cell_regrown c4_0
  have k4_1 := cell_regrown c4_1
  have k4_2 := cell_regrown c4_2
  have k4_3 := cell_regrown c4_3
  clear c0_0 c0_1 c0_2 c0_3 c1_0 c1_1 c1_2 c1_3 c2_0 c2_1 c2_2 c2_3 c3_0 c3_1 c3_2 c3_3 c4_0 c4_1 c4_2 c4_3
  have xJ2 := Reg.call_at J2 w4
  have xH := Reg.call_at H w4
  refine Reg.wp_region_fill (B := w4) 11 (.cells #[.int .u8 0, .int .u8 0, .int .u8 0, .int .u8 0] 24) (.cells #[.int .u8 z0, .int .u8 z1, .int .u8 z2, .int .u8 z3] 24) (by kernel_rfl) (by kernel_rfl) ⟨_, rfl, rfl, fun _ _ => by go_simp⟩ rfl rfl rfl (by kernel_rfl) (Below.refl _ w4) ?_
  simp only [List.take_succ_cons, List.take_zero, List.drop_succ_cons, List.drop_zero]
  (repeat (first | (refine Reg.wpE_big (by rfl) (fun K hK => ?_) (by rfl); go_big_quiet_op; go_big_quiet_on) | (refine Reg.wpE_step (fun K hK => ?_); go_simp; first | (refine hK _ ?_; clear hK K) | (apply Exists.intro; refine ⟨fun _ => ?_, hK _ ?_⟩; (first | exact xJ2 _ _ _ rfl | exact xH _ _ _ rfl); clear hK K))))
  refine Reg.wpE_nil ?_
  intro g4 hg
  refine ⟨fun w hw => ?_, ?_⟩
  · have d0 : w.cell? ⟨g4, 0, none⟩ = some (.int .u8 0) := (blk_cell hw 0).trans rfl
    have d1 : w.cell? ⟨g4, 1, none⟩ = some (.int .u8 0) := (blk_cell hw 1).trans rfl
    have d2 : w.cell? ⟨g4, 2, none⟩ = some (.int .u8 0) := (blk_cell hw 2).trans rfl
    have d3 : w.cell? ⟨g4, 3, none⟩ = some (.int .u8 0) := (blk_cell hw 3).trans rfl
    have f0 : w.frozen? ⟨g4, 0, none⟩ = false := blk_frozen hw 0
    have f1 : w.frozen? ⟨g4, 1, none⟩ = false := blk_frozen hw 1
    have f2 : w.frozen? ⟨g4, 2, none⟩ = false := blk_frozen hw 2
    have f3 : w.frozen? ⟨g4, 3, none⟩ = false := blk_frozen hw 3
    refine ⟨_, ?_, Put.set (Put.set (Put.set (Put.set (Put.refl hw) 0 _) 1 _) 2 _) 3 _⟩
    go_simp
  intro w5 hb hN
  clear xJ2 xH k0_0 k0_1 k0_2 k0_3 k1_0 k1_1 k1_2 k1_3 k2_0 k2_1 k2_2 k2_3 k3_0 k3_1 k3_2 k3_3 k4_0 k4_1 k4_2 k4_3
  have G0 := Reg.blk_later H0.out hb
  have G1 := Reg.blk_later H1.out hb
  have G2 := Reg.blk_later H2.out hb
  have G3 := Reg.blk_later H3.out hb
  have G4 := Reg.blk_later H4.out hb
  have G5 : w5.heap[g4]? = some (.cells #[.int .u8 z0, .int .u8 z1, .int .u8 z2, .int .u8 z3] 24 (0, 0)) := hN
  have hE : Ext W w5 := Ext.trans HE4.out hb
  have HE5 := Lib.hid hE
  clear hE hb hN hg HE4 H0 H1 H2 H3 H4
  have c0_0 : w5.cell? ⟨W.heap.size, 0, none⟩ = some (.int .u8 a0) := (blk_cell G0 0).trans rfl
  have c0_1 : w5.cell? ⟨W.heap.size, 1, none⟩ = some (.int .u8 a1) := (blk_cell G0 1).trans rfl
  have c0_2 : w5.cell? ⟨W.heap.size, 2, none⟩ = some (.int .u8 a2) := (blk_cell G0 2).trans rfl
  have c0_3 : w5.cell? ⟨W.heap.size, 3, none⟩ = some (.int .u8 a3) := (blk_cell G0 3).trans rfl
  have H0 := Lib.hid G0
  clear G0
  have c1_0 : w5.cell? ⟨W.heap.size + 1, 0, none⟩ = some (.int .u8 b0) := (blk_cell G1 0).trans rfl
  have c1_1 : w5.cell? ⟨W.heap.size + 1, 1, none⟩ = some (.int .u8 b1) := (blk_cell G1 1).trans rfl
  have c1_2 : w5.cell? ⟨W.heap.size + 1, 2, none⟩ = some (.int .u8 b2) := (blk_cell G1 2).trans rfl
  have c1_3 : w5.cell? ⟨W.heap.size + 1, 3, none⟩ = some (.int .u8 b3) := (blk_cell G1 3).trans rfl
  have H1 := Lib.hid G1
  clear G1
  have c2_0 : w5.cell? ⟨W.heap.size + 1 + 1, 0, none⟩ = some (.int .u8 c0) := (blk_cell G2 0).trans rfl
  have c2_1 : w5.cell? ⟨W.heap.size + 1 + 1, 1, none⟩ = some (.int .u8 c1) := (blk_cell G2 1).trans rfl
  have c2_2 : w5.cell? ⟨W.heap.size + 1 + 1, 2, none⟩ = some (.int .u8 c2) := (blk_cell G2 2).trans rfl
  have c2_3 : w5.cell? ⟨W.heap.size + 1 + 1, 3, none⟩ = some (.int .u8 c3) := (blk_cell G2 3).trans rfl
  have H2 := Lib.hid G2
  clear G2
  have c3_0 : w5.cell? ⟨w2.heap.size, 0, none⟩ = some (.int .u8 x0) := (blk_cell G3 0).trans rfl
  have c3_1 : w5.cell? ⟨w2.heap.size, 1, none⟩ = some (.int .u8 x1) := (blk_cell G3 1).trans rfl
  have c3_2 : w5.cell? ⟨w2.heap.size, 2, none⟩ = some (.int .u8 x2) := (blk_cell G3 2).trans rfl
  have c3_3 : w5.cell? ⟨w2.heap.size, 3, none⟩ = some (.int .u8 x3) := (blk_cell G3 3).trans rfl
  have H3 := Lib.hid G3
  clear G3
  have c4_0 : w5.cell? ⟨g3, 0, none⟩ = some (.int .u8 y0) := (blk_cell G4 0).trans rfl
  have c4_1 : w5.cell? ⟨g3, 1, none⟩ = some (.int .u8 y1) := (blk_cell G4 1).trans rfl
  have c4_2 : w5.cell? ⟨g3, 2, none⟩ = some (.int .u8 y2) := (blk_cell G4 2).trans rfl
  have c4_3 : w5.cell? ⟨g3, 3, none⟩ = some (.int .u8 y3) := (blk_cell G4 3).trans rfl
  have H4 := Lib.hid G4
  clear G4
  have c5_0 : w5.cell? ⟨g4, 0, none⟩ = some (.int .u8 z0) := (blk_cell G5 0).trans rfl
  have c5_1 : w5.cell? ⟨g4, 1, none⟩ = some (.int .u8 z1) := (blk_cell G5 1).trans rfl
  have c5_2 : w5.cell? ⟨g4, 2, none⟩ = some (.int .u8 z2) := (blk_cell G5 2).trans rfl
  have c5_3 : w5.cell? ⟨g4, 3, none⟩ = some (.int .u8 z3) := (blk_cell G5 3).trans rfl
  have H5 := Lib.hid G5
  clear G5
  go_wp2_with fail
  have k0_0 := cell_regrown c0_0
  have k0_1 := cell_regrown c0_1
  have k0_2 := cell_regrown c0_2
  have k0_3 := cell_regrown c0_3
  have k1_0 := cell_regrown c1_0
  have k1_1 := cell_regrown c1_1
  have k1_2 := cell_regrown c1_2
  have k1_3 := cell_regrown c1_3
  have k2_0 := cell_regrown c2_0
  have k2_1 := cell_regrown c2_1
  have k2_2 := cell_regrown c2_2
  have k2_3 := cell_regrown c2_3
  have k3_0 := cell_regrown c3_0
  have k3_1 := cell_regrown c3_1
  have k3_2 := cell_regrown c3_2
  have k3_3 := cell_regrown c3_3
  have k4_0 := cell_regrown c4_0
  have k4_1 := cell_regrown c4_1
  have k4_2 := cell_regrown c4_2
  have k4_3 := cell_regrown c4_3
  have k5_0 := cell_regrown c5_0
  have k5_1 := cell_regrown c5_1
  have k5_2 := cell_regrown c5_2
  have k5_3 := cell_regrown c5_3
  clear c0_0 c0_1 c0_2 c0_3 c1_0 c1_1 c1_2 c1_3 c2_0 c2_1 c2_2 c2_3 c3_0 c3_1 c3_2 c3_3 c4_0 c4_1 c4_2 c4_3 c5_0 c5_1 c5_2 c5_3
  have xJX := Reg.call_cl JX w5
  have xJZ := Reg.call_cl JZ w5
  refine Reg.wp_region_reads (B := w5) (by kernel_rfl) (by kernel_rfl) (Below.refl _ w5) ?_
  (repeat (first | go_big_quiet_step (first | exact xJX _ _ _ rfl | exact xJZ _ _ _ rfl) | quiet_step (first | exact xJX _ _ _ rfl | exact xJZ _ _ _ rfl)))
  refine wpQuiet_nil ?_
  intro _ hw'
  obtain ⟨⟨dq, osq⟩, hw''⟩ := hw'
  subst hw''
  have hE := HE5.out
  go_wp2
  go_ret
  exact ⟨rfl, Ext.trans hE (Ext.of_cl w5 dq osq)⟩
set_option maxRecDepth 100000 in
set_option maxHeartbeats 40000000 in
theorem core6 {W : World} {a b a0 a1 a2 a3 b0 b1 b2 b3 c0 c1 c2 c3 x0 x1 x2 x3 y0 y1 y2 y3 z0 z1 z2 z3 j0 j1 j2 j3 k0 k1 k2 k3 m0 m1 m2 m3 e : Int} (F : ∀ w : World, Calls Try.prog 13 #[.int .i64 6, .int .u32 a, .int .u32 b, .agg #[.int .u8 a0, .int .u8 a1, .int .u8 a2, .int .u8 a3], .agg #[.int .u8 b0, .int .u8 b1, .int .u8 b2, .int .u8 b3]] w (RetE (.tuple #[.agg #[.int .u8 x0, .int .u8 x1, .int .u8 x2, .int .u8 x3], .int .i64 e]) w)) (J1 : ∀ w : World, Calls Try.prog 18 #[.agg #[.int .u8 a0, .int .u8 a1, .int .u8 a2, .int .u8 a3], .agg #[.int .u8 c0, .int .u8 c1, .int .u8 c2, .int .u8 c3]] w (RetE (.agg #[.int .u8 j0, .int .u8 j1, .int .u8 j2, .int .u8 j3]) w)) (G : ∀ w : World, Calls Try.prog 13 #[.int .i64 6, .int .u32 a, .int .u32 b, .agg #[.int .u8 j0, .int .u8 j1, .int .u8 j2, .int .u8 j3], .agg #[.int .u8 b0, .int .u8 b1, .int .u8 b2, .int .u8 b3]] w (RetE (.tuple #[.agg #[.int .u8 y0, .int .u8 y1, .int .u8 y2, .int .u8 y3], .int .i64 e]) w)) (J2 : ∀ w : World, Calls Try.prog 18 #[.agg #[.int .u8 b0, .int .u8 b1, .int .u8 b2, .int .u8 b3], .agg #[.int .u8 c0, .int .u8 c1, .int .u8 c2, .int .u8 c3]] w (RetE (.agg #[.int .u8 k0, .int .u8 k1, .int .u8 k2, .int .u8 k3]) w)) (H : ∀ w : World, Calls Try.prog 13 #[.int .i64 6, .int .u32 a, .int .u32 b, .agg #[.int .u8 a0, .int .u8 a1, .int .u8 a2, .int .u8 a3], .agg #[.int .u8 k0, .int .u8 k1, .int .u8 k2, .int .u8 k3]] w (RetE (.tuple #[.agg #[.int .u8 z0, .int .u8 z1, .int .u8 z2, .int .u8 z3], .int .i64 e]) w)) (JX : ∀ w : World, Calls Try.prog 18 #[.agg #[.int .u8 x0, .int .u8 x1, .int .u8 x2, .int .u8 x3], .agg #[.int .u8 y0, .int .u8 y1, .int .u8 y2, .int .u8 y3]] w (RetE (.agg #[.int .u8 y0, .int .u8 y1, .int .u8 y2, .int .u8 y3]) w)) (JZ : ∀ w : World, Calls Try.prog 18 #[.agg #[.int .u8 x0, .int .u8 x1, .int .u8 x2, .int .u8 x3], .agg #[.int .u8 z0, .int .u8 z1, .int .u8 z2, .int .u8 z3]] w (RetE (.agg #[.int .u8 m0, .int .u8 m1, .int .u8 m2, .int .u8 m3]) w)) (hne : (m0 == z0 && (m1 == z1 && (m2 == z2 && m3 == z3))) = false) : Calls Try.prog 6 #[.int .i64 6, .int .u32 a, .int .u32 b, .agg #[.int .u8 a0, .int .u8 a1, .int .u8 a2, .int .u8 a3], .agg #[.int .u8 b0, .int .u8 b1, .int .u8 b2, .int .u8 b3], .agg #[.int .u8 c0, .int .u8 c1, .int .u8 c2, .int .u8 c3]] W (RetE (.bool true) W) := by
  go_enter Try.func6, Try.ntmps6
  go_wp2_with fail
  refine (awake12 _).mono ?_
  rintro e w1 ⟨rfl, hb⟩
  have G0 : w1.heap[W.heap.size]? = some (.cells #[.int .u8 a0, .int .u8 a1, .int .u8 a2, .int .u8 a3] 24 (0, 0)) := Reg.blk_later (by have h := blk_alloc (blk_alloc (blk_new W (.cells #[.int .u8 a0, .int .u8 a1, .int .u8 a2, .int .u8 a3] 24)) (.cells #[.int .u8 b0, .int .u8 b1, .int .u8 b2, .int .u8 b3] 24)) (.cells #[.int .u8 c0, .int .u8 c1, .int .u8 c2, .int .u8 c3] 24); simpa using h) hb
  have G1 : w1.heap[W.heap.size + 1]? = some (.cells #[.int .u8 b0, .int .u8 b1, .int .u8 b2, .int .u8 b3] 24 (0, 0)) := Reg.blk_later (by have h := blk_alloc (blk_new (W.alloc (.cells #[.int .u8 a0, .int .u8 a1, .int .u8 a2, .int .u8 a3] 24)) (.cells #[.int .u8 b0, .int .u8 b1, .int .u8 b2, .int .u8 b3] 24)) (.cells #[.int .u8 c0, .int .u8 c1, .int .u8 c2, .int .u8 c3] 24); simpa using h) hb
  have G2 : w1.heap[W.heap.size + 1 + 1]? = some (.cells #[.int .u8 c0, .int .u8 c1, .int .u8 c2, .int .u8 c3] 24 (0, 0)) := Reg.blk_later (by have h := blk_new ((W.alloc (.cells #[.int .u8 a0, .int .u8 a1, .int .u8 a2, .int .u8 a3] 24)).alloc (.cells #[.int .u8 b0, .int .u8 b1, .int .u8 b2, .int .u8 b3] 24)) (.cells #[.int .u8 c0, .int .u8 c1, .int .u8 c2, .int .u8 c3] 24); simpa using h) hb
  have hE : Ext W w1 := Ext.trans (by (repeat' (first | assumption | exact Ext.refl _ | refine Ext.drewN ?_ | refine Ext.drew ?_ | refine Ext.alloc ?_))) hb
  have HE1 := Lib.hid hE
  clear hE hb
  have c0_0 : w1.cell? ⟨W.heap.size, 0, none⟩ = some (.int .u8 a0) := (blk_cell G0 0).trans rfl
  have a0_0 : ∀ o, (w1.alloc o).cell? ⟨W.heap.size, 0, none⟩ = some (.int .u8 a0) := fun o => (blk_cell (blk_alloc G0 o) 0).trans rfl
  have c0_1 : w1.cell? ⟨W.heap.size, 1, none⟩ = some (.int .u8 a1) := (blk_cell G0 1).trans rfl
  have a0_1 : ∀ o, (w1.alloc o).cell? ⟨W.heap.size, 1, none⟩ = some (.int .u8 a1) := fun o => (blk_cell (blk_alloc G0 o) 1).trans rfl
  have c0_2 : w1.cell? ⟨W.heap.size, 2, none⟩ = some (.int .u8 a2) := (blk_cell G0 2).trans rfl
  have a0_2 : ∀ o, (w1.alloc o).cell? ⟨W.heap.size, 2, none⟩ = some (.int .u8 a2) := fun o => (blk_cell (blk_alloc G0 o) 2).trans rfl
  have c0_3 : w1.cell? ⟨W.heap.size, 3, none⟩ = some (.int .u8 a3) := (blk_cell G0 3).trans rfl
  have a0_3 : ∀ o, (w1.alloc o).cell? ⟨W.heap.size, 3, none⟩ = some (.int .u8 a3) := fun o => (blk_cell (blk_alloc G0 o) 3).trans rfl
  have H0 := Lib.hid G0
  clear G0
  have c1_0 : w1.cell? ⟨W.heap.size + 1, 0, none⟩ = some (.int .u8 b0) := (blk_cell G1 0).trans rfl
  have a1_0 : ∀ o, (w1.alloc o).cell? ⟨W.heap.size + 1, 0, none⟩ = some (.int .u8 b0) := fun o => (blk_cell (blk_alloc G1 o) 0).trans rfl
  have c1_1 : w1.cell? ⟨W.heap.size + 1, 1, none⟩ = some (.int .u8 b1) := (blk_cell G1 1).trans rfl
  have a1_1 : ∀ o, (w1.alloc o).cell? ⟨W.heap.size + 1, 1, none⟩ = some (.int .u8 b1) := fun o => (blk_cell (blk_alloc G1 o) 1).trans rfl
  have c1_2 : w1.cell? ⟨W.heap.size + 1, 2, none⟩ = some (.int .u8 b2) := (blk_cell G1 2).trans rfl
  have a1_2 : ∀ o, (w1.alloc o).cell? ⟨W.heap.size + 1, 2, none⟩ = some (.int .u8 b2) := fun o => (blk_cell (blk_alloc G1 o) 2).trans rfl
  have c1_3 : w1.cell? ⟨W.heap.size + 1, 3, none⟩ = some (.int .u8 b3) := (blk_cell G1 3).trans rfl
  have a1_3 : ∀ o, (w1.alloc o).cell? ⟨W.heap.size + 1, 3, none⟩ = some (.int .u8 b3) := fun o => (blk_cell (blk_alloc G1 o) 3).trans rfl
  have H1 := Lib.hid G1
  clear G1
  have c2_0 : w1.cell? ⟨W.heap.size + 1 + 1, 0, none⟩ = some (.int .u8 c0) := (blk_cell G2 0).trans rfl
  have a2_0 : ∀ o, (w1.alloc o).cell? ⟨W.heap.size + 1 + 1, 0, none⟩ = some (.int .u8 c0) := fun o => (blk_cell (blk_alloc G2 o) 0).trans rfl
  have c2_1 : w1.cell? ⟨W.heap.size + 1 + 1, 1, none⟩ = some (.int .u8 c1) := (blk_cell G2 1).trans rfl
  have a2_1 : ∀ o, (w1.alloc o).cell? ⟨W.heap.size + 1 + 1, 1, none⟩ = some (.int .u8 c1) := fun o => (blk_cell (blk_alloc G2 o) 1).trans rfl
  have c2_2 : w1.cell? ⟨W.heap.size + 1 + 1, 2, none⟩ = some (.int .u8 c2) := (blk_cell G2 2).trans rfl
  have a2_2 : ∀ o, (w1.alloc o).cell? ⟨W.heap.size + 1 + 1, 2, none⟩ = some (.int .u8 c2) := fun o => (blk_cell (blk_alloc G2 o) 2).trans rfl
  have c2_3 : w1.cell? ⟨W.heap.size + 1 + 1, 3, none⟩ = some (.int .u8 c3) := (blk_cell G2 3).trans rfl
  have a2_3 : ∀ o, (w1.alloc o).cell? ⟨W.heap.size + 1 + 1, 3, none⟩ = some (.int .u8 c3) := fun o => (blk_cell (blk_alloc G2 o) 3).trans rfl
  have H2 := Lib.hid G2
  clear G2
  go_wp2_with fail
  refine (F _).mono ?_
  rintro e w2 ⟨rfl, hb⟩
  clear c0_0 a0_0 c0_1 a0_1 c0_2 a0_2 c0_3 a0_3 c1_0 a1_0 c1_1 a1_1 c1_2 a1_2 c1_3 a1_3 c2_0 a2_0 c2_1 a2_1 c2_2 a2_2 c2_3 a2_3
  have G0 := Reg.blk_later H0.out hb
  have G1 := Reg.blk_later H1.out hb
  have G2 := Reg.blk_later H2.out hb
  have hE : Ext W w2 := Ext.trans (by have h := HE1.out; (repeat' (first | assumption | exact Ext.refl _ | refine Ext.drewN ?_ | refine Ext.drew ?_ | refine Ext.alloc ?_))) hb
  have HE2 := Lib.hid hE
  clear hE hb HE1 H0 H1 H2
  have c0_0 : w2.cell? ⟨W.heap.size, 0, none⟩ = some (.int .u8 a0) := (blk_cell G0 0).trans rfl
  have a0_0 : ∀ o, (w2.alloc o).cell? ⟨W.heap.size, 0, none⟩ = some (.int .u8 a0) := fun o => (blk_cell (blk_alloc G0 o) 0).trans rfl
  have c0_1 : w2.cell? ⟨W.heap.size, 1, none⟩ = some (.int .u8 a1) := (blk_cell G0 1).trans rfl
  have a0_1 : ∀ o, (w2.alloc o).cell? ⟨W.heap.size, 1, none⟩ = some (.int .u8 a1) := fun o => (blk_cell (blk_alloc G0 o) 1).trans rfl
  have c0_2 : w2.cell? ⟨W.heap.size, 2, none⟩ = some (.int .u8 a2) := (blk_cell G0 2).trans rfl
  have a0_2 : ∀ o, (w2.alloc o).cell? ⟨W.heap.size, 2, none⟩ = some (.int .u8 a2) := fun o => (blk_cell (blk_alloc G0 o) 2).trans rfl
  have c0_3 : w2.cell? ⟨W.heap.size, 3, none⟩ = some (.int .u8 a3) := (blk_cell G0 3).trans rfl
  have a0_3 : ∀ o, (w2.alloc o).cell? ⟨W.heap.size, 3, none⟩ = some (.int .u8 a3) := fun o => (blk_cell (blk_alloc G0 o) 3).trans rfl
  have H0 := Lib.hid G0
  clear G0
  have c1_0 : w2.cell? ⟨W.heap.size + 1, 0, none⟩ = some (.int .u8 b0) := (blk_cell G1 0).trans rfl
  have a1_0 : ∀ o, (w2.alloc o).cell? ⟨W.heap.size + 1, 0, none⟩ = some (.int .u8 b0) := fun o => (blk_cell (blk_alloc G1 o) 0).trans rfl
  have c1_1 : w2.cell? ⟨W.heap.size + 1, 1, none⟩ = some (.int .u8 b1) := (blk_cell G1 1).trans rfl
  have a1_1 : ∀ o, (w2.alloc o).cell? ⟨W.heap.size + 1, 1, none⟩ = some (.int .u8 b1) := fun o => (blk_cell (blk_alloc G1 o) 1).trans rfl
  have c1_2 : w2.cell? ⟨W.heap.size + 1, 2, none⟩ = some (.int .u8 b2) := (blk_cell G1 2).trans rfl
  have a1_2 : ∀ o, (w2.alloc o).cell? ⟨W.heap.size + 1, 2, none⟩ = some (.int .u8 b2) := fun o => (blk_cell (blk_alloc G1 o) 2).trans rfl
  have c1_3 : w2.cell? ⟨W.heap.size + 1, 3, none⟩ = some (.int .u8 b3) := (blk_cell G1 3).trans rfl
  have a1_3 : ∀ o, (w2.alloc o).cell? ⟨W.heap.size + 1, 3, none⟩ = some (.int .u8 b3) := fun o => (blk_cell (blk_alloc G1 o) 3).trans rfl
  have H1 := Lib.hid G1
  clear G1
  have c2_0 : w2.cell? ⟨W.heap.size + 1 + 1, 0, none⟩ = some (.int .u8 c0) := (blk_cell G2 0).trans rfl
  have a2_0 : ∀ o, (w2.alloc o).cell? ⟨W.heap.size + 1 + 1, 0, none⟩ = some (.int .u8 c0) := fun o => (blk_cell (blk_alloc G2 o) 0).trans rfl
  have c2_1 : w2.cell? ⟨W.heap.size + 1 + 1, 1, none⟩ = some (.int .u8 c1) := (blk_cell G2 1).trans rfl
  have a2_1 : ∀ o, (w2.alloc o).cell? ⟨W.heap.size + 1 + 1, 1, none⟩ = some (.int .u8 c1) := fun o => (blk_cell (blk_alloc G2 o) 1).trans rfl
  have c2_2 : w2.cell? ⟨W.heap.size + 1 + 1, 2, none⟩ = some (.int .u8 c2) := (blk_cell G2 2).trans rfl
  have a2_2 : ∀ o, (w2.alloc o).cell? ⟨W.heap.size + 1 + 1, 2, none⟩ = some (.int .u8 c2) := fun o => (blk_cell (blk_alloc G2 o) 2).trans rfl
  have c2_3 : w2.cell? ⟨W.heap.size + 1 + 1, 3, none⟩ = some (.int .u8 c3) := (blk_cell G2 3).trans rfl
  have a2_3 : ∀ o, (w2.alloc o).cell? ⟨W.heap.size + 1 + 1, 3, none⟩ = some (.int .u8 c3) := fun o => (blk_cell (blk_alloc G2 o) 3).trans rfl
  have H2 := Lib.hid G2
  clear G2
  go_wp2_with fail
  clear c0_0 a0_0 c0_1 a0_1 c0_2 a0_2 c0_3 a0_3 c1_0 a1_0 c1_1 a1_1 c1_2 a1_2 c1_3 a1_3 c2_0 a2_0 c2_1 a2_1 c2_2 a2_2 c2_3 a2_3
  refine Reg.wp_open (fun w' => Ext W w' ∧ w'.heap[W.heap.size]? = some (.cells #[.int .u8 a0, .int .u8 a1, .int .u8 a2, .int .u8 a3] 24 (0, 0)) ∧ w'.heap[W.heap.size + 1]? = some (.cells #[.int .u8 b0, .int .u8 b1, .int .u8 b2, .int .u8 b3] 24 (0, 0)) ∧ w'.heap[W.heap.size + 1 + 1]? = some (.cells #[.int .u8 c0, .int .u8 c1, .int .u8 c2, .int .u8 c3] 24 (0, 0)) ∧ w'.heap[w2.heap.size]? = some (.cells #[.int .u8 x0, .int .u8 x1, .int .u8 x2, .int .u8 x3] 24 (0, 0))) ⟨by have h := HE2.out; (repeat' (first | assumption | exact Ext.refl _ | refine Ext.drewN ?_ | refine Ext.drew ?_ | refine Ext.alloc ?_)), (blk_alloc H0.out _), (blk_alloc H1.out _), (blk_alloc H2.out _), blk_new _ _⟩ (fun w3 hS => ?_)
  clear HE2 H0 H1 H2
  obtain ⟨hE, G0, G1, G2, G3⟩ := hS
  have HE3 := Lib.hid hE
  clear hE
  have c0_0 : w3.cell? ⟨W.heap.size, 0, none⟩ = some (.int .u8 a0) := (blk_cell G0 0).trans rfl
  have c0_1 : w3.cell? ⟨W.heap.size, 1, none⟩ = some (.int .u8 a1) := (blk_cell G0 1).trans rfl
  have c0_2 : w3.cell? ⟨W.heap.size, 2, none⟩ = some (.int .u8 a2) := (blk_cell G0 2).trans rfl
  have c0_3 : w3.cell? ⟨W.heap.size, 3, none⟩ = some (.int .u8 a3) := (blk_cell G0 3).trans rfl
  have H0 := Lib.hid G0
  clear G0
  have c1_0 : w3.cell? ⟨W.heap.size + 1, 0, none⟩ = some (.int .u8 b0) := (blk_cell G1 0).trans rfl
  have c1_1 : w3.cell? ⟨W.heap.size + 1, 1, none⟩ = some (.int .u8 b1) := (blk_cell G1 1).trans rfl
  have c1_2 : w3.cell? ⟨W.heap.size + 1, 2, none⟩ = some (.int .u8 b2) := (blk_cell G1 2).trans rfl
  have c1_3 : w3.cell? ⟨W.heap.size + 1, 3, none⟩ = some (.int .u8 b3) := (blk_cell G1 3).trans rfl
  have H1 := Lib.hid G1
  clear G1
  have c2_0 : w3.cell? ⟨W.heap.size + 1 + 1, 0, none⟩ = some (.int .u8 c0) := (blk_cell G2 0).trans rfl
  have c2_1 : w3.cell? ⟨W.heap.size + 1 + 1, 1, none⟩ = some (.int .u8 c1) := (blk_cell G2 1).trans rfl
  have c2_2 : w3.cell? ⟨W.heap.size + 1 + 1, 2, none⟩ = some (.int .u8 c2) := (blk_cell G2 2).trans rfl
  have c2_3 : w3.cell? ⟨W.heap.size + 1 + 1, 3, none⟩ = some (.int .u8 c3) := (blk_cell G2 3).trans rfl
  have H2 := Lib.hid G2
  clear G2
  have c3_0 : w3.cell? ⟨w2.heap.size, 0, none⟩ = some (.int .u8 x0) := (blk_cell G3 0).trans rfl
  have c3_1 : w3.cell? ⟨w2.heap.size, 1, none⟩ = some (.int .u8 x1) := (blk_cell G3 1).trans rfl
  have c3_2 : w3.cell? ⟨w2.heap.size, 2, none⟩ = some (.int .u8 x2) := (blk_cell G3 2).trans rfl
  have c3_3 : w3.cell? ⟨w2.heap.size, 3, none⟩ = some (.int .u8 x3) := (blk_cell G3 3).trans rfl
  have H3 := Lib.hid G3
  clear G3
  have k0_0 := cell_regrown c0_0
  have k0_1 := cell_regrown c0_1
  have k0_2 := cell_regrown c0_2
  have k0_3 := cell_regrown c0_3
  have k1_0 := cell_regrown c1_0
  have k1_1 := cell_regrown c1_1
  have k1_2 := cell_regrown c1_2
  have k1_3 := cell_regrown c1_3
  have k2_0 := cell_regrown c2_0
  have k2_1 := cell_regrown c2_1
  have k2_2 := cell_regrown c2_2
  have k2_3 := cell_regrown c2_3
  have k3_0 := cell_regrown c3_0
  have k3_1 := cell_regrown c3_1
  have k3_2 := cell_regrown c3_2
  have k3_3 := cell_regrown c3_3
  clear c0_0 c0_1 c0_2 c0_3 c1_0 c1_1 c1_2 c1_3 c2_0 c2_1 c2_2 c2_3 c3_0 c3_1 c3_2 c3_3
  have xJ1 := Reg.call_at J1 w3
  have xG := Reg.call_at G w3
  refine Reg.wp_region_fill (B := w3) 11 (.cells #[.int .u8 0, .int .u8 0, .int .u8 0, .int .u8 0] 24) (.cells #[.int .u8 y0, .int .u8 y1, .int .u8 y2, .int .u8 y3] 24) (by kernel_rfl) (by kernel_rfl) ⟨_, rfl, rfl, fun _ _ => by go_simp⟩ rfl rfl rfl (by kernel_rfl) (Below.refl _ w3) ?_
  simp only [List.take_succ_cons, List.take_zero, List.drop_succ_cons, List.drop_zero]
  (repeat (first | (refine Reg.wpE_big (by rfl) (fun K hK => ?_) (by rfl); go_big_quiet_op; go_big_quiet_on) | (refine Reg.wpE_step (fun K hK => ?_); go_simp; first | (refine hK _ ?_; clear hK K) | (apply Exists.intro; refine ⟨fun _ => ?_, hK _ ?_⟩; (first | exact xJ1 _ _ _ rfl | exact xG _ _ _ rfl); clear hK K))))
  refine Reg.wpE_nil ?_
  intro g3 hg
  refine ⟨fun w hw => ?_, ?_⟩
  · have d0 : w.cell? ⟨g3, 0, none⟩ = some (.int .u8 0) := (blk_cell hw 0).trans rfl
    have d1 : w.cell? ⟨g3, 1, none⟩ = some (.int .u8 0) := (blk_cell hw 1).trans rfl
    have d2 : w.cell? ⟨g3, 2, none⟩ = some (.int .u8 0) := (blk_cell hw 2).trans rfl
    have d3 : w.cell? ⟨g3, 3, none⟩ = some (.int .u8 0) := (blk_cell hw 3).trans rfl
    have f0 : w.frozen? ⟨g3, 0, none⟩ = false := blk_frozen hw 0
    have f1 : w.frozen? ⟨g3, 1, none⟩ = false := blk_frozen hw 1
    have f2 : w.frozen? ⟨g3, 2, none⟩ = false := blk_frozen hw 2
    have f3 : w.frozen? ⟨g3, 3, none⟩ = false := blk_frozen hw 3
    refine ⟨_, ?_, Put.set (Put.set (Put.set (Put.set (Put.refl hw) 0 _) 1 _) 2 _) 3 _⟩
    go_simp
  intro w4 hb hN
  clear xJ1 xG k0_0 k0_1 k0_2 k0_3 k1_0 k1_1 k1_2 k1_3 k2_0 k2_1 k2_2 k2_3 k3_0 k3_1 k3_2 k3_3
  have G0 := Reg.blk_later H0.out hb
  have G1 := Reg.blk_later H1.out hb
  have G2 := Reg.blk_later H2.out hb
  have G3 := Reg.blk_later H3.out hb
  have G4 : w4.heap[g3]? = some (.cells #[.int .u8 y0, .int .u8 y1, .int .u8 y2, .int .u8 y3] 24 (0, 0)) := hN
  have hE : Ext W w4 := Ext.trans HE3.out hb
  have HE4 := Lib.hid hE
  clear hE hb hN hg HE3 H0 H1 H2 H3
  have c0_0 : w4.cell? ⟨W.heap.size, 0, none⟩ = some (.int .u8 a0) := (blk_cell G0 0).trans rfl
  have c0_1 : w4.cell? ⟨W.heap.size, 1, none⟩ = some (.int .u8 a1) := (blk_cell G0 1).trans rfl
  have c0_2 : w4.cell? ⟨W.heap.size, 2, none⟩ = some (.int .u8 a2) := (blk_cell G0 2).trans rfl
  have c0_3 : w4.cell? ⟨W.heap.size, 3, none⟩ = some (.int .u8 a3) := (blk_cell G0 3).trans rfl
  have H0 := Lib.hid G0
  clear G0
  have c1_0 : w4.cell? ⟨W.heap.size + 1, 0, none⟩ = some (.int .u8 b0) := (blk_cell G1 0).trans rfl
  have c1_1 : w4.cell? ⟨W.heap.size + 1, 1, none⟩ = some (.int .u8 b1) := (blk_cell G1 1).trans rfl
  have c1_2 : w4.cell? ⟨W.heap.size + 1, 2, none⟩ = some (.int .u8 b2) := (blk_cell G1 2).trans rfl
  have c1_3 : w4.cell? ⟨W.heap.size + 1, 3, none⟩ = some (.int .u8 b3) := (blk_cell G1 3).trans rfl
  have H1 := Lib.hid G1
  clear G1
  have c2_0 : w4.cell? ⟨W.heap.size + 1 + 1, 0, none⟩ = some (.int .u8 c0) := (blk_cell G2 0).trans rfl
  have c2_1 : w4.cell? ⟨W.heap.size + 1 + 1, 1, none⟩ = some (.int .u8 c1) := (blk_cell G2 1).trans rfl
  have c2_2 : w4.cell? ⟨W.heap.size + 1 + 1, 2, none⟩ = some (.int .u8 c2) := (blk_cell G2 2).trans rfl
  have c2_3 : w4.cell? ⟨W.heap.size + 1 + 1, 3, none⟩ = some (.int .u8 c3) := (blk_cell G2 3).trans rfl
  have H2 := Lib.hid G2
  clear G2
  have c3_0 : w4.cell? ⟨w2.heap.size, 0, none⟩ = some (.int .u8 x0) := (blk_cell G3 0).trans rfl
  have c3_1 : w4.cell? ⟨w2.heap.size, 1, none⟩ = some (.int .u8 x1) := (blk_cell G3 1).trans rfl
  have c3_2 : w4.cell? ⟨w2.heap.size, 2, none⟩ = some (.int .u8 x2) := (blk_cell G3 2).trans rfl
  have c3_3 : w4.cell? ⟨w2.heap.size, 3, none⟩ = some (.int .u8 x3) := (blk_cell G3 3).trans rfl
  have H3 := Lib.hid G3
  clear G3
  have c4_0 : w4.cell? ⟨g3, 0, none⟩ = some (.int .u8 y0) := (blk_cell G4 0).trans rfl
  have c4_1 : w4.cell? ⟨g3, 1, none⟩ = some (.int .u8 y1) := (blk_cell G4 1).trans rfl
  have c4_2 : w4.cell? ⟨g3, 2, none⟩ = some (.int .u8 y2) := (blk_cell G4 2).trans rfl
  have c4_3 : w4.cell? ⟨g3, 3, none⟩ = some (.int .u8 y3) := (blk_cell G4 3).trans rfl
  have H4 := Lib.hid G4
  clear G4
  go_wp2_with fail
  have k0_0 := cell_regrown c0_0
  have k0_1 := cell_regrown c0_1
  have k0_2 := cell_regrown c0_2
  have k0_3 := cell_regrown c0_3
  have k1_0 := cell_regrown c1_0
  have k1_1 := cell_regrown c1_1
  have k1_2 := cell_regrown c1_2
  have k1_3 := cell_regrown c1_3
  have k2_0 := cell_regrown c2_0
  have k2_1 := cell_regrown c2_1
  have k2_2 := cell_regrown c2_2
  have k2_3 := cell_regrown c2_3
  have k3_0 := cell_regrown c3_0
  have k3_1 := cell_regrown c3_1
  have k3_2 := cell_regrown c3_2
  have k3_3 := cell_regrown c3_3
  have k4_0 := cell_regrown c4_0
  have k4_1 := cell_regrown c4_1
  have k4_2 := cell_regrown c4_2
  have k4_3 := cell_regrown c4_3
  clear c0_0 c0_1 c0_2 c0_3 c1_0 c1_1 c1_2 c1_3 c2_0 c2_1 c2_2 c2_3 c3_0 c3_1 c3_2 c3_3 c4_0 c4_1 c4_2 c4_3
  have xJ2 := Reg.call_at J2 w4
  have xH := Reg.call_at H w4
  refine Reg.wp_region_fill (B := w4) 11 (.cells #[.int .u8 0, .int .u8 0, .int .u8 0, .int .u8 0] 24) (.cells #[.int .u8 z0, .int .u8 z1, .int .u8 z2, .int .u8 z3] 24) (by kernel_rfl) (by kernel_rfl) ⟨_, rfl, rfl, fun _ _ => by go_simp⟩ rfl rfl rfl (by kernel_rfl) (Below.refl _ w4) ?_
  simp only [List.take_succ_cons, List.take_zero, List.drop_succ_cons, List.drop_zero]
  (repeat (first | (refine Reg.wpE_big (by rfl) (fun K hK => ?_) (by rfl); go_big_quiet_op; go_big_quiet_on) | (refine Reg.wpE_step (fun K hK => ?_); go_simp; first | (refine hK _ ?_; clear hK K) | (apply Exists.intro; refine ⟨fun _ => ?_, hK _ ?_⟩; (first | exact xJ2 _ _ _ rfl | exact xH _ _ _ rfl); clear hK K))))
  refine Reg.wpE_nil ?_
  intro g4 hg
  refine ⟨fun w hw => ?_, ?_⟩
  · have d0 : w.cell? ⟨g4, 0, none⟩ = some (.int .u8 0) := (blk_cell hw 0).trans rfl
    have d1 : w.cell? ⟨g4, 1, none⟩ = some (.int .u8 0) := (blk_cell hw 1).trans rfl
    have d2 : w.cell? ⟨g4, 2, none⟩ = some (.int .u8 0) := (blk_cell hw 2).trans rfl
    have d3 : w.cell? ⟨g4, 3, none⟩ = some (.int .u8 0) := (blk_cell hw 3).trans rfl
    have f0 : w.frozen? ⟨g4, 0, none⟩ = false := blk_frozen hw 0
    have f1 : w.frozen? ⟨g4, 1, none⟩ = false := blk_frozen hw 1
    have f2 : w.frozen? ⟨g4, 2, none⟩ = false := blk_frozen hw 2
    have f3 : w.frozen? ⟨g4, 3, none⟩ = false := blk_frozen hw 3
    refine ⟨_, ?_, Put.set (Put.set (Put.set (Put.set (Put.refl hw) 0 _) 1 _) 2 _) 3 _⟩
    go_simp
  intro w5 hb hN
  clear xJ2 xH k0_0 k0_1 k0_2 k0_3 k1_0 k1_1 k1_2 k1_3 k2_0 k2_1 k2_2 k2_3 k3_0 k3_1 k3_2 k3_3 k4_0 k4_1 k4_2 k4_3
  have G0 := Reg.blk_later H0.out hb
  have G1 := Reg.blk_later H1.out hb
  have G2 := Reg.blk_later H2.out hb
  have G3 := Reg.blk_later H3.out hb
  have G4 := Reg.blk_later H4.out hb
  have G5 : w5.heap[g4]? = some (.cells #[.int .u8 z0, .int .u8 z1, .int .u8 z2, .int .u8 z3] 24 (0, 0)) := hN
  have hE : Ext W w5 := Ext.trans HE4.out hb
  have HE5 := Lib.hid hE
  clear hE hb hN hg HE4 H0 H1 H2 H3 H4
  have c0_0 : w5.cell? ⟨W.heap.size, 0, none⟩ = some (.int .u8 a0) := (blk_cell G0 0).trans rfl
  have c0_1 : w5.cell? ⟨W.heap.size, 1, none⟩ = some (.int .u8 a1) := (blk_cell G0 1).trans rfl
  have c0_2 : w5.cell? ⟨W.heap.size, 2, none⟩ = some (.int .u8 a2) := (blk_cell G0 2).trans rfl
  have c0_3 : w5.cell? ⟨W.heap.size, 3, none⟩ = some (.int .u8 a3) := (blk_cell G0 3).trans rfl
  have H0 := Lib.hid G0
  clear G0
  have c1_0 : w5.cell? ⟨W.heap.size + 1, 0, none⟩ = some (.int .u8 b0) := (blk_cell G1 0).trans rfl
  have c1_1 : w5.cell? ⟨W.heap.size + 1, 1, none⟩ = some (.int .u8 b1) := (blk_cell G1 1).trans rfl
  have c1_2 : w5.cell? ⟨W.heap.size + 1, 2, none⟩ = some (.int .u8 b2) := (blk_cell G1 2).trans rfl
  have c1_3 : w5.cell? ⟨W.heap.size + 1, 3, none⟩ = some (.int .u8 b3) := (blk_cell G1 3).trans rfl
  have H1 := Lib.hid G1
  clear G1
  have c2_0 : w5.cell? ⟨W.heap.size + 1 + 1, 0, none⟩ = some (.int .u8 c0) := (blk_cell G2 0).trans rfl
  have c2_1 : w5.cell? ⟨W.heap.size + 1 + 1, 1, none⟩ = some (.int .u8 c1) := (blk_cell G2 1).trans rfl
  have c2_2 : w5.cell? ⟨W.heap.size + 1 + 1, 2, none⟩ = some (.int .u8 c2) := (blk_cell G2 2).trans rfl
  have c2_3 : w5.cell? ⟨W.heap.size + 1 + 1, 3, none⟩ = some (.int .u8 c3) := (blk_cell G2 3).trans rfl
  have H2 := Lib.hid G2
  clear G2
  have c3_0 : w5.cell? ⟨w2.heap.size, 0, none⟩ = some (.int .u8 x0) := (blk_cell G3 0).trans rfl
  have c3_1 : w5.cell? ⟨w2.heap.size, 1, none⟩ = some (.int .u8 x1) := (blk_cell G3 1).trans rfl
  have c3_2 : w5.cell? ⟨w2.heap.size, 2, none⟩ = some (.int .u8 x2) := (blk_cell G3 2).trans rfl
  have c3_3 : w5.cell? ⟨w2.heap.size, 3, none⟩ = some (.int .u8 x3) := (blk_cell G3 3).trans rfl
  have H3 := Lib.hid G3
  clear G3
  have c4_0 : w5.cell? ⟨g3, 0, none⟩ = some (.int .u8 y0) := (blk_cell G4 0).trans rfl
  have c4_1 : w5.cell? ⟨g3, 1, none⟩ = some (.int .u8 y1) := (blk_cell G4 1).trans rfl
  have c4_2 : w5.cell? ⟨g3, 2, none⟩ = some (.int .u8 y2) := (blk_cell G4 2).trans rfl
  have c4_3 : w5.cell? ⟨g3, 3, none⟩ = some (.int .u8 y3) := (blk_cell G4 3).trans rfl
  have H4 := Lib.hid G4
  clear G4
  have c5_0 : w5.cell? ⟨g4, 0, none⟩ = some (.int .u8 z0) := (blk_cell G5 0).trans rfl
  have c5_1 : w5.cell? ⟨g4, 1, none⟩ = some (.int .u8 z1) := (blk_cell G5 1).trans rfl
  have c5_2 : w5.cell? ⟨g4, 2, none⟩ = some (.int .u8 z2) := (blk_cell G5 2).trans rfl
  have c5_3 : w5.cell? ⟨g4, 3, none⟩ = some (.int .u8 z3) := (blk_cell G5 3).trans rfl
  have H5 := Lib.hid G5
  clear G5
  go_wp2_with fail
  have k0_0 := cell_regrown c0_0
  have k0_1 := cell_regrown c0_1
  have k0_2 := cell_regrown c0_2
  have k0_3 := cell_regrown c0_3
  have k1_0 := cell_regrown c1_0
  have k1_1 := cell_regrown c1_1
  have k1_2 := cell_regrown c1_2
  have k1_3 := cell_regrown c1_3
  have k2_0 := cell_regrown c2_0
  have k2_1 := cell_regrown c2_1
  have k2_2 := cell_regrown c2_2
  have k2_3 := cell_regrown c2_3
  have k3_0 := cell_regrown c3_0
  have k3_1 := cell_regrown c3_1
  have k3_2 := cell_regrown c3_2
  have k3_3 := cell_regrown c3_3
  have k4_0 := cell_regrown c4_0
  have k4_1 := cell_regrown c4_1
  have k4_2 := cell_regrown c4_2
  have k4_3 := cell_regrown c4_3
  have k5_0 := cell_regrown c5_0
  have k5_1 := cell_regrown c5_1
  have k5_2 := cell_regrown c5_2
  have k5_3 := cell_regrown c5_3
  clear c0_0 c0_1 c0_2 c0_3 c1_0 c1_1 c1_2 c1_3 c2_0 c2_1 c2_2 c2_3 c3_0 c3_1 c3_2 c3_3 c4_0 c4_1 c4_2 c4_3 c5_0 c5_1 c5_2 c5_3
  have xJX := Reg.call_cl JX w5
  have xJZ := Reg.call_cl JZ w5
  refine Reg.wp_region_reads (B := w5) (by kernel_rfl) (by kernel_rfl) (Below.refl _ w5) ?_
  (repeat (first | go_big_quiet_step (first | exact xJX _ _ _ rfl | exact xJZ _ _ _ rfl) | quiet_step (first | exact xJX _ _ _ rfl | exact xJZ _ _ _ rfl)))
  refine wpQuiet_nil ?_
  intro _ hw'
  obtain ⟨⟨dq, osq⟩, hw''⟩ := hw'
  subst hw''
  have hE := HE5.out
  go_wp2
  go_ret
  exact ⟨rfl, Ext.trans hE (Ext.of_cl w5 dq osq)⟩
set_option maxRecDepth 100000 in
set_option maxHeartbeats 40000000 in
theorem core7 {W : World} {a b a0 a1 a2 a3 b0 b1 b2 b3 c0 c1 c2 c3 x0 x1 x2 x3 y0 y1 y2 y3 z0 z1 z2 z3 j0 j1 j2 j3 k0 k1 k2 k3 m0 m1 m2 m3 e : Int} (F : ∀ w : World, Calls Try.prog 13 #[.int .i64 7, .int .u32 a, .int .u32 b, .agg #[.int .u8 a0, .int .u8 a1, .int .u8 a2, .int .u8 a3], .agg #[.int .u8 b0, .int .u8 b1, .int .u8 b2, .int .u8 b3]] w (RetE (.tuple #[.agg #[.int .u8 x0, .int .u8 x1, .int .u8 x2, .int .u8 x3], .int .i64 e]) w)) (J1 : ∀ w : World, Calls Try.prog 18 #[.agg #[.int .u8 a0, .int .u8 a1, .int .u8 a2, .int .u8 a3], .agg #[.int .u8 c0, .int .u8 c1, .int .u8 c2, .int .u8 c3]] w (RetE (.agg #[.int .u8 j0, .int .u8 j1, .int .u8 j2, .int .u8 j3]) w)) (G : ∀ w : World, Calls Try.prog 13 #[.int .i64 7, .int .u32 a, .int .u32 b, .agg #[.int .u8 j0, .int .u8 j1, .int .u8 j2, .int .u8 j3], .agg #[.int .u8 b0, .int .u8 b1, .int .u8 b2, .int .u8 b3]] w (RetE (.tuple #[.agg #[.int .u8 y0, .int .u8 y1, .int .u8 y2, .int .u8 y3], .int .i64 e]) w)) (J2 : ∀ w : World, Calls Try.prog 18 #[.agg #[.int .u8 b0, .int .u8 b1, .int .u8 b2, .int .u8 b3], .agg #[.int .u8 c0, .int .u8 c1, .int .u8 c2, .int .u8 c3]] w (RetE (.agg #[.int .u8 k0, .int .u8 k1, .int .u8 k2, .int .u8 k3]) w)) (H : ∀ w : World, Calls Try.prog 13 #[.int .i64 7, .int .u32 a, .int .u32 b, .agg #[.int .u8 a0, .int .u8 a1, .int .u8 a2, .int .u8 a3], .agg #[.int .u8 k0, .int .u8 k1, .int .u8 k2, .int .u8 k3]] w (RetE (.tuple #[.agg #[.int .u8 z0, .int .u8 z1, .int .u8 z2, .int .u8 z3], .int .i64 e]) w)) (JX : ∀ w : World, Calls Try.prog 18 #[.agg #[.int .u8 x0, .int .u8 x1, .int .u8 x2, .int .u8 x3], .agg #[.int .u8 y0, .int .u8 y1, .int .u8 y2, .int .u8 y3]] w (RetE (.agg #[.int .u8 y0, .int .u8 y1, .int .u8 y2, .int .u8 y3]) w)) (JZ : ∀ w : World, Calls Try.prog 18 #[.agg #[.int .u8 x0, .int .u8 x1, .int .u8 x2, .int .u8 x3], .agg #[.int .u8 z0, .int .u8 z1, .int .u8 z2, .int .u8 z3]] w (RetE (.agg #[.int .u8 m0, .int .u8 m1, .int .u8 m2, .int .u8 m3]) w)) (hne : (m0 == z0 && (m1 == z1 && (m2 == z2 && m3 == z3))) = false) : Calls Try.prog 6 #[.int .i64 7, .int .u32 a, .int .u32 b, .agg #[.int .u8 a0, .int .u8 a1, .int .u8 a2, .int .u8 a3], .agg #[.int .u8 b0, .int .u8 b1, .int .u8 b2, .int .u8 b3], .agg #[.int .u8 c0, .int .u8 c1, .int .u8 c2, .int .u8 c3]] W (RetE (.bool true) W) := by
  go_enter Try.func6, Try.ntmps6
  go_wp2_with fail
  refine (awake12 _).mono ?_
  rintro e w1 ⟨rfl, hb⟩
  have G0 : w1.heap[W.heap.size]? = some (.cells #[.int .u8 a0, .int .u8 a1, .int .u8 a2, .int .u8 a3] 24 (0, 0)) := Reg.blk_later (by have h := blk_alloc (blk_alloc (blk_new W (.cells #[.int .u8 a0, .int .u8 a1, .int .u8 a2, .int .u8 a3] 24)) (.cells #[.int .u8 b0, .int .u8 b1, .int .u8 b2, .int .u8 b3] 24)) (.cells #[.int .u8 c0, .int .u8 c1, .int .u8 c2, .int .u8 c3] 24); simpa using h) hb
  have G1 : w1.heap[W.heap.size + 1]? = some (.cells #[.int .u8 b0, .int .u8 b1, .int .u8 b2, .int .u8 b3] 24 (0, 0)) := Reg.blk_later (by have h := blk_alloc (blk_new (W.alloc (.cells #[.int .u8 a0, .int .u8 a1, .int .u8 a2, .int .u8 a3] 24)) (.cells #[.int .u8 b0, .int .u8 b1, .int .u8 b2, .int .u8 b3] 24)) (.cells #[.int .u8 c0, .int .u8 c1, .int .u8 c2, .int .u8 c3] 24); simpa using h) hb
  have G2 : w1.heap[W.heap.size + 1 + 1]? = some (.cells #[.int .u8 c0, .int .u8 c1, .int .u8 c2, .int .u8 c3] 24 (0, 0)) := Reg.blk_later (by have h := blk_new ((W.alloc (.cells #[.int .u8 a0, .int .u8 a1, .int .u8 a2, .int .u8 a3] 24)).alloc (.cells #[.int .u8 b0, .int .u8 b1, .int .u8 b2, .int .u8 b3] 24)) (.cells #[.int .u8 c0, .int .u8 c1, .int .u8 c2, .int .u8 c3] 24); simpa using h) hb
  have hE : Ext W w1 := Ext.trans (by (repeat' (first | assumption | exact Ext.refl _ | refine Ext.drewN ?_ | refine Ext.drew ?_ | refine Ext.alloc ?_))) hb
  have HE1 := Lib.hid hE
  clear hE hb
  have c0_0 : w1.cell? ⟨W.heap.size, 0, none⟩ = some (.int .u8 a0) := (blk_cell G0 0).trans rfl
  have a0_0 : ∀ o, (w1.alloc o).cell? ⟨W.heap.size, 0, none⟩ = some (.int .u8 a0) := fun o => (blk_cell (blk_alloc G0 o) 0).trans rfl
  have c0_1 : w1.cell? ⟨W.heap.size, 1, none⟩ = some (.int .u8 a1) := (blk_cell G0 1).trans rfl
  have a0_1 : ∀ o, (w1.alloc o).cell? ⟨W.heap.size, 1, none⟩ = some (.int .u8 a1) := fun o => (blk_cell (blk_alloc G0 o) 1).trans rfl
  have c0_2 : w1.cell? ⟨W.heap.size, 2, none⟩ = some (.int .u8 a2) := (blk_cell G0 2).trans rfl
  have a0_2 : ∀ o, (w1.alloc o).cell? ⟨W.heap.size, 2, none⟩ = some (.int .u8 a2) := fun o => (blk_cell (blk_alloc G0 o) 2).trans rfl
  have c0_3 : w1.cell? ⟨W.heap.size, 3, none⟩ = some (.int .u8 a3) := (blk_cell G0 3).trans rfl
  have a0_3 : ∀ o, (w1.alloc o).cell? ⟨W.heap.size, 3, none⟩ = some (.int .u8 a3) := fun o => (blk_cell (blk_alloc G0 o) 3).trans rfl
  have H0 := Lib.hid G0
  clear G0
  have c1_0 : w1.cell? ⟨W.heap.size + 1, 0, none⟩ = some (.int .u8 b0) := (blk_cell G1 0).trans rfl
  have a1_0 : ∀ o, (w1.alloc o).cell? ⟨W.heap.size + 1, 0, none⟩ = some (.int .u8 b0) := fun o => (blk_cell (blk_alloc G1 o) 0).trans rfl
  have c1_1 : w1.cell? ⟨W.heap.size + 1, 1, none⟩ = some (.int .u8 b1) := (blk_cell G1 1).trans rfl
  have a1_1 : ∀ o, (w1.alloc o).cell? ⟨W.heap.size + 1, 1, none⟩ = some (.int .u8 b1) := fun o => (blk_cell (blk_alloc G1 o) 1).trans rfl
  have c1_2 : w1.cell? ⟨W.heap.size + 1, 2, none⟩ = some (.int .u8 b2) := (blk_cell G1 2).trans rfl
  have a1_2 : ∀ o, (w1.alloc o).cell? ⟨W.heap.size + 1, 2, none⟩ = some (.int .u8 b2) := fun o => (blk_cell (blk_alloc G1 o) 2).trans rfl
  have c1_3 : w1.cell? ⟨W.heap.size + 1, 3, none⟩ = some (.int .u8 b3) := (blk_cell G1 3).trans rfl
  have a1_3 : ∀ o, (w1.alloc o).cell? ⟨W.heap.size + 1, 3, none⟩ = some (.int .u8 b3) := fun o => (blk_cell (blk_alloc G1 o) 3).trans rfl
  have H1 := Lib.hid G1
  clear G1
  have c2_0 : w1.cell? ⟨W.heap.size + 1 + 1, 0, none⟩ = some (.int .u8 c0) := (blk_cell G2 0).trans rfl
  have a2_0 : ∀ o, (w1.alloc o).cell? ⟨W.heap.size + 1 + 1, 0, none⟩ = some (.int .u8 c0) := fun o => (blk_cell (blk_alloc G2 o) 0).trans rfl
  have c2_1 : w1.cell? ⟨W.heap.size + 1 + 1, 1, none⟩ = some (.int .u8 c1) := (blk_cell G2 1).trans rfl
  have a2_1 : ∀ o, (w1.alloc o).cell? ⟨W.heap.size + 1 + 1, 1, none⟩ = some (.int .u8 c1) := fun o => (blk_cell (blk_alloc G2 o) 1).trans rfl
  have c2_2 : w1.cell? ⟨W.heap.size + 1 + 1, 2, none⟩ = some (.int .u8 c2) := (blk_cell G2 2).trans rfl
  have a2_2 : ∀ o, (w1.alloc o).cell? ⟨W.heap.size + 1 + 1, 2, none⟩ = some (.int .u8 c2) := fun o => (blk_cell (blk_alloc G2 o) 2).trans rfl
  have c2_3 : w1.cell? ⟨W.heap.size + 1 + 1, 3, none⟩ = some (.int .u8 c3) := (blk_cell G2 3).trans rfl
  have a2_3 : ∀ o, (w1.alloc o).cell? ⟨W.heap.size + 1 + 1, 3, none⟩ = some (.int .u8 c3) := fun o => (blk_cell (blk_alloc G2 o) 3).trans rfl
  have H2 := Lib.hid G2
  clear G2
  go_wp2_with fail
  refine (F _).mono ?_
  rintro e w2 ⟨rfl, hb⟩
  clear c0_0 a0_0 c0_1 a0_1 c0_2 a0_2 c0_3 a0_3 c1_0 a1_0 c1_1 a1_1 c1_2 a1_2 c1_3 a1_3 c2_0 a2_0 c2_1 a2_1 c2_2 a2_2 c2_3 a2_3
  have G0 := Reg.blk_later H0.out hb
  have G1 := Reg.blk_later H1.out hb
  have G2 := Reg.blk_later H2.out hb
  have hE : Ext W w2 := Ext.trans (by have h := HE1.out; (repeat' (first | assumption | exact Ext.refl _ | refine Ext.drewN ?_ | refine Ext.drew ?_ | refine Ext.alloc ?_))) hb
  have HE2 := Lib.hid hE
  clear hE hb HE1 H0 H1 H2
  have c0_0 : w2.cell? ⟨W.heap.size, 0, none⟩ = some (.int .u8 a0) := (blk_cell G0 0).trans rfl
  have a0_0 : ∀ o, (w2.alloc o).cell? ⟨W.heap.size, 0, none⟩ = some (.int .u8 a0) := fun o => (blk_cell (blk_alloc G0 o) 0).trans rfl
  have c0_1 : w2.cell? ⟨W.heap.size, 1, none⟩ = some (.int .u8 a1) := (blk_cell G0 1).trans rfl
  have a0_1 : ∀ o, (w2.alloc o).cell? ⟨W.heap.size, 1, none⟩ = some (.int .u8 a1) := fun o => (blk_cell (blk_alloc G0 o) 1).trans rfl
  have c0_2 : w2.cell? ⟨W.heap.size, 2, none⟩ = some (.int .u8 a2) := (blk_cell G0 2).trans rfl
  have a0_2 : ∀ o, (w2.alloc o).cell? ⟨W.heap.size, 2, none⟩ = some (.int .u8 a2) := fun o => (blk_cell (blk_alloc G0 o) 2).trans rfl
  have c0_3 : w2.cell? ⟨W.heap.size, 3, none⟩ = some (.int .u8 a3) := (blk_cell G0 3).trans rfl
  have a0_3 : ∀ o, (w2.alloc o).cell? ⟨W.heap.size, 3, none⟩ = some (.int .u8 a3) := fun o => (blk_cell (blk_alloc G0 o) 3).trans rfl
  have H0 := Lib.hid G0
  clear G0
  have c1_0 : w2.cell? ⟨W.heap.size + 1, 0, none⟩ = some (.int .u8 b0) := (blk_cell G1 0).trans rfl
  have a1_0 : ∀ o, (w2.alloc o).cell? ⟨W.heap.size + 1, 0, none⟩ = some (.int .u8 b0) := fun o => (blk_cell (blk_alloc G1 o) 0).trans rfl
  have c1_1 : w2.cell? ⟨W.heap.size + 1, 1, none⟩ = some (.int .u8 b1) := (blk_cell G1 1).trans rfl
  have a1_1 : ∀ o, (w2.alloc o).cell? ⟨W.heap.size + 1, 1, none⟩ = some (.int .u8 b1) := fun o => (blk_cell (blk_alloc G1 o) 1).trans rfl
  have c1_2 : w2.cell? ⟨W.heap.size + 1, 2, none⟩ = some (.int .u8 b2) := (blk_cell G1 2).trans rfl
  have a1_2 : ∀ o, (w2.alloc o).cell? ⟨W.heap.size + 1, 2, none⟩ = some (.int .u8 b2) := fun o => (blk_cell (blk_alloc G1 o) 2).trans rfl
  have c1_3 : w2.cell? ⟨W.heap.size + 1, 3, none⟩ = some (.int .u8 b3) := (blk_cell G1 3).trans rfl
  have a1_3 : ∀ o, (w2.alloc o).cell? ⟨W.heap.size + 1, 3, none⟩ = some (.int .u8 b3) := fun o => (blk_cell (blk_alloc G1 o) 3).trans rfl
  have H1 := Lib.hid G1
  clear G1
  have c2_0 : w2.cell? ⟨W.heap.size + 1 + 1, 0, none⟩ = some (.int .u8 c0) := (blk_cell G2 0).trans rfl
  have a2_0 : ∀ o, (w2.alloc o).cell? ⟨W.heap.size + 1 + 1, 0, none⟩ = some (.int .u8 c0) := fun o => (blk_cell (blk_alloc G2 o) 0).trans rfl
  have c2_1 : w2.cell? ⟨W.heap.size + 1 + 1, 1, none⟩ = some (.int .u8 c1) := (blk_cell G2 1).trans rfl
  have a2_1 : ∀ o, (w2.alloc o).cell? ⟨W.heap.size + 1 + 1, 1, none⟩ = some (.int .u8 c1) := fun o => (blk_cell (blk_alloc G2 o) 1).trans rfl
  have c2_2 : w2.cell? ⟨W.heap.size + 1 + 1, 2, none⟩ = some (.int .u8 c2) := (blk_cell G2 2).trans rfl
  have a2_2 : ∀ o, (w2.alloc o).cell? ⟨W.heap.size + 1 + 1, 2, none⟩ = some (.int .u8 c2) := fun o => (blk_cell (blk_alloc G2 o) 2).trans rfl
  have c2_3 : w2.cell? ⟨W.heap.size + 1 + 1, 3, none⟩ = some (.int .u8 c3) := (blk_cell G2 3).trans rfl
  have a2_3 : ∀ o, (w2.alloc o).cell? ⟨W.heap.size + 1 + 1, 3, none⟩ = some (.int .u8 c3) := fun o => (blk_cell (blk_alloc G2 o) 3).trans rfl
  have H2 := Lib.hid G2
  clear G2
  go_wp2_with fail
  clear c0_0 a0_0 c0_1 a0_1 c0_2 a0_2 c0_3 a0_3 c1_0 a1_0 c1_1 a1_1 c1_2 a1_2 c1_3 a1_3 c2_0 a2_0 c2_1 a2_1 c2_2 a2_2 c2_3 a2_3
  refine Reg.wp_open (fun w' => Ext W w' ∧ w'.heap[W.heap.size]? = some (.cells #[.int .u8 a0, .int .u8 a1, .int .u8 a2, .int .u8 a3] 24 (0, 0)) ∧ w'.heap[W.heap.size + 1]? = some (.cells #[.int .u8 b0, .int .u8 b1, .int .u8 b2, .int .u8 b3] 24 (0, 0)) ∧ w'.heap[W.heap.size + 1 + 1]? = some (.cells #[.int .u8 c0, .int .u8 c1, .int .u8 c2, .int .u8 c3] 24 (0, 0)) ∧ w'.heap[w2.heap.size]? = some (.cells #[.int .u8 x0, .int .u8 x1, .int .u8 x2, .int .u8 x3] 24 (0, 0))) ⟨by have h := HE2.out; (repeat' (first | assumption | exact Ext.refl _ | refine Ext.drewN ?_ | refine Ext.drew ?_ | refine Ext.alloc ?_)), (blk_alloc H0.out _), (blk_alloc H1.out _), (blk_alloc H2.out _), blk_new _ _⟩ (fun w3 hS => ?_)
  clear HE2 H0 H1 H2
  obtain ⟨hE, G0, G1, G2, G3⟩ := hS
  have HE3 := Lib.hid hE
  clear hE
  have c0_0 : w3.cell? ⟨W.heap.size, 0, none⟩ = some (.int .u8 a0) := (blk_cell G0 0).trans rfl
  have c0_1 : w3.cell? ⟨W.heap.size, 1, none⟩ = some (.int .u8 a1) := (blk_cell G0 1).trans rfl
  have c0_2 : w3.cell? ⟨W.heap.size, 2, none⟩ = some (.int .u8 a2) := (blk_cell G0 2).trans rfl
  have c0_3 : w3.cell? ⟨W.heap.size, 3, none⟩ = some (.int .u8 a3) := (blk_cell G0 3).trans rfl
  have H0 := Lib.hid G0
  clear G0
  have c1_0 : w3.cell? ⟨W.heap.size + 1, 0, none⟩ = some (.int .u8 b0) := (blk_cell G1 0).trans rfl
  have c1_1 : w3.cell? ⟨W.heap.size + 1, 1, none⟩ = some (.int .u8 b1) := (blk_cell G1 1).trans rfl
  have c1_2 : w3.cell? ⟨W.heap.size + 1, 2, none⟩ = some (.int .u8 b2) := (blk_cell G1 2).trans rfl
  have c1_3 : w3.cell? ⟨W.heap.size + 1, 3, none⟩ = some (.int .u8 b3) := (blk_cell G1 3).trans rfl
  have H1 := Lib.hid G1
  clear G1
  have c2_0 : w3.cell? ⟨W.heap.size + 1 + 1, 0, none⟩ = some (.int .u8 c0) := (blk_cell G2 0).trans rfl
  have c2_1 : w3.cell? ⟨W.heap.size + 1 + 1, 1, none⟩ = some (.int .u8 c1) := (blk_cell G2 1).trans rfl
  have c2_2 : w3.cell? ⟨W.heap.size + 1 + 1, 2, none⟩ = some (.int .u8 c2) := (blk_cell G2 2).trans rfl
  have c2_3 : w3.cell? ⟨W.heap.size + 1 + 1, 3, none⟩ = some (.int .u8 c3) := (blk_cell G2 3).trans rfl
  have H2 := Lib.hid G2
  clear G2
  have c3_0 : w3.cell? ⟨w2.heap.size, 0, none⟩ = some (.int .u8 x0) := (blk_cell G3 0).trans rfl
  have c3_1 : w3.cell? ⟨w2.heap.size, 1, none⟩ = some (.int .u8 x1) := (blk_cell G3 1).trans rfl
  have c3_2 : w3.cell? ⟨w2.heap.size, 2, none⟩ = some (.int .u8 x2) := (blk_cell G3 2).trans rfl
  have c3_3 : w3.cell? ⟨w2.heap.size, 3, none⟩ = some (.int .u8 x3) := (blk_cell G3 3).trans rfl
  have H3 := Lib.hid G3
  clear G3
  have k0_0 := cell_regrown c0_0
  have k0_1 := cell_regrown c0_1
  have k0_2 := cell_regrown c0_2
  have k0_3 := cell_regrown c0_3
  have k1_0 := cell_regrown c1_0
  have k1_1 := cell_regrown c1_1
  have k1_2 := cell_regrown c1_2
  have k1_3 := cell_regrown c1_3
  have k2_0 := cell_regrown c2_0
  have k2_1 := cell_regrown c2_1
  have k2_2 := cell_regrown c2_2
  have k2_3 := cell_regrown c2_3
  have k3_0 := cell_regrown c3_0
  have k3_1 := cell_regrown c3_1
  have k3_2 := cell_regrown c3_2
  have k3_3 := cell_regrown c3_3
  clear c0_0 c0_1 c0_2 c0_3 c1_0 c1_1 c1_2 c1_3 c2_0 c2_1 c2_2 c2_3 c3_0 c3_1 c3_2 c3_3
  have xJ1 := Reg.call_at J1 w3
  have xG := Reg.call_at G w3
  refine Reg.wp_region_fill (B := w3) 11 (.cells #[.int .u8 0, .int .u8 0, .int .u8 0, .int .u8 0] 24) (.cells #[.int .u8 y0, .int .u8 y1, .int .u8 y2, .int .u8 y3] 24) (by kernel_rfl) (by kernel_rfl) ⟨_, rfl, rfl, fun _ _ => by go_simp⟩ rfl rfl rfl (by kernel_rfl) (Below.refl _ w3) ?_
  simp only [List.take_succ_cons, List.take_zero, List.drop_succ_cons, List.drop_zero]
  (repeat (first | (refine Reg.wpE_big (by rfl) (fun K hK => ?_) (by rfl); go_big_quiet_op; go_big_quiet_on) | (refine Reg.wpE_step (fun K hK => ?_); go_simp; first | (refine hK _ ?_; clear hK K) | (apply Exists.intro; refine ⟨fun _ => ?_, hK _ ?_⟩; (first | exact xJ1 _ _ _ rfl | exact xG _ _ _ rfl); clear hK K))))
  refine Reg.wpE_nil ?_
  intro g3 hg
  refine ⟨fun w hw => ?_, ?_⟩
  · have d0 : w.cell? ⟨g3, 0, none⟩ = some (.int .u8 0) := (blk_cell hw 0).trans rfl
    have d1 : w.cell? ⟨g3, 1, none⟩ = some (.int .u8 0) := (blk_cell hw 1).trans rfl
    have d2 : w.cell? ⟨g3, 2, none⟩ = some (.int .u8 0) := (blk_cell hw 2).trans rfl
    have d3 : w.cell? ⟨g3, 3, none⟩ = some (.int .u8 0) := (blk_cell hw 3).trans rfl
    have f0 : w.frozen? ⟨g3, 0, none⟩ = false := blk_frozen hw 0
    have f1 : w.frozen? ⟨g3, 1, none⟩ = false := blk_frozen hw 1
    have f2 : w.frozen? ⟨g3, 2, none⟩ = false := blk_frozen hw 2
    have f3 : w.frozen? ⟨g3, 3, none⟩ = false := blk_frozen hw 3
    refine ⟨_, ?_, Put.set (Put.set (Put.set (Put.set (Put.refl hw) 0 _) 1 _) 2 _) 3 _⟩
    go_simp
  intro w4 hb hN
  clear xJ1 xG k0_0 k0_1 k0_2 k0_3 k1_0 k1_1 k1_2 k1_3 k2_0 k2_1 k2_2 k2_3 k3_0 k3_1 k3_2 k3_3
  have G0 := Reg.blk_later H0.out hb
  have G1 := Reg.blk_later H1.out hb
  have G2 := Reg.blk_later H2.out hb
  have G3 := Reg.blk_later H3.out hb
  have G4 : w4.heap[g3]? = some (.cells #[.int .u8 y0, .int .u8 y1, .int .u8 y2, .int .u8 y3] 24 (0, 0)) := hN
  have hE : Ext W w4 := Ext.trans HE3.out hb
  have HE4 := Lib.hid hE
  clear hE hb hN hg HE3 H0 H1 H2 H3
  have c0_0 : w4.cell? ⟨W.heap.size, 0, none⟩ = some (.int .u8 a0) := (blk_cell G0 0).trans rfl
  have c0_1 : w4.cell? ⟨W.heap.size, 1, none⟩ = some (.int .u8 a1) := (blk_cell G0 1).trans rfl
  have c0_2 : w4.cell? ⟨W.heap.size, 2, none⟩ = some (.int .u8 a2) := (blk_cell G0 2).trans rfl
  have c0_3 : w4.cell? ⟨W.heap.size, 3, none⟩ = some (.int .u8 a3) := (blk_cell G0 3).trans rfl
  have H0 := Lib.hid G0
  clear G0
  have c1_0 : w4.cell? ⟨W.heap.size + 1, 0, none⟩ = some (.int .u8 b0) := (blk_cell G1 0).trans rfl
  have c1_1 : w4.cell? ⟨W.heap.size + 1, 1, none⟩ = some (.int .u8 b1) := (blk_cell G1 1).trans rfl
  have c1_2 : w4.cell? ⟨W.heap.size + 1, 2, none⟩ = some (.int .u8 b2) := (blk_cell G1 2).trans rfl
  have c1_3 : w4.cell? ⟨W.heap.size + 1, 3, none⟩ = some (.int .u8 b3) := (blk_cell G1 3).trans rfl
  have H1 := Lib.hid G1
  clear G1
  have c2_0 : w4.cell? ⟨W.heap.size + 1 + 1, 0, none⟩ = some (.int .u8 c0) := (blk_cell G2 0).trans rfl
  have c2_1 : w4.cell? ⟨W.heap.size + 1 + 1, 1, none⟩ = some (.int .u8 c1) := (blk_cell G2 1).trans rfl
  have c2_2 : w4.cell? ⟨W.heap.size + 1 + 1, 2, none⟩ = some (.int .u8 c2) := (blk_cell G2 2).trans rfl
  have c2_3 : w4.cell? ⟨W.heap.size + 1 + 1, 3, none⟩ = some (.int .u8 c3) := (blk_cell G2 3).trans rfl
  have H2 := Lib.hid G2
  clear G2
  have c3_0 : w4.cell? ⟨w2.heap.size, 0, none⟩ = some (.int .u8 x0) := (blk_cell G3 0).trans rfl
  have c3_1 : w4.cell? ⟨w2.heap.size, 1, none⟩ = some (.int .u8 x1) := (blk_cell G3 1).trans rfl
  have c3_2 : w4.cell? ⟨w2.heap.size, 2, none⟩ = some (.int .u8 x2) := (blk_cell G3 2).trans rfl
  have c3_3 : w4.cell? ⟨w2.heap.size, 3, none⟩ = some (.int .u8 x3) := (blk_cell G3 3).trans rfl
  have H3 := Lib.hid G3
  clear G3
  have c4_0 : w4.cell? ⟨g3, 0, none⟩ = some (.int .u8 y0) := (blk_cell G4 0).trans rfl
  have c4_1 : w4.cell? ⟨g3, 1, none⟩ = some (.int .u8 y1) := (blk_cell G4 1).trans rfl
  have c4_2 : w4.cell? ⟨g3, 2, none⟩ = some (.int .u8 y2) := (blk_cell G4 2).trans rfl
  have c4_3 : w4.cell? ⟨g3, 3, none⟩ = some (.int .u8 y3) := (blk_cell G4 3).trans rfl
  have H4 := Lib.hid G4
  clear G4
  go_wp2_with fail
  have k0_0 := cell_regrown c0_0
  have k0_1 := cell_regrown c0_1
  have k0_2 := cell_regrown c0_2
  have k0_3 := cell_regrown c0_3
  have k1_0 := cell_regrown c1_0
  have k1_1 := cell_regrown c1_1
  have k1_2 := cell_regrown c1_2
  have k1_3 := cell_regrown c1_3
  have k2_0 := cell_regrown c2_0
  have k2_1 := cell_regrown c2_1
  have k2_2 := cell_regrown c2_2
  have k2_3 := cell_regrown c2_3
  have k3_0 := cell_regrown c3_0
  have k3_1 := cell_regrown c3_1
  have k3_2 := cell_regrown c3_2
  have k3_3 := cell_regrown c3_3
  have k4_0 := cell_regrown c4_0
  have k4_1 := cell_regrown c4_1
  have k4_2 := cell_regrown c4_2
  have k4_3 := cell_regrown c4_3
  clear c0_0 c0_1 c0_2 c0_3 c1_0 c1_1 c1_2 c1_3 c2_0 c2_1 c2_2 c2_3 c3_0 c3_1 c3_2 c3_3 c4_0 c4_1 c4_2 c4_3
  have xJ2 := Reg.call_at J2 w4
  have xH := Reg.call_at H w4
  refine Reg.wp_region_fill (B := w4) 11 (.cells #[.int .u8 0, .int .u8 0, .int .u8 0, .int .u8 0] 24) (.cells #[.int .u8 z0, .int .u8 z1, .int .u8 z2, .int .u8 z3] 24) (by kernel_rfl) (by kernel_rfl) ⟨_, rfl, rfl, fun _ _ => by go_simp⟩ rfl rfl rfl (by kernel_rfl) (Below.refl _ w4) ?_
  simp only [List.take_succ_cons, List.take_zero, List.drop_succ_cons, List.drop_zero]
  (repeat (first | (refine Reg.wpE_big (by rfl) (fun K hK => ?_) (by rfl); go_big_quiet_op; go_big_quiet_on) | (refine Reg.wpE_step (fun K hK => ?_); go_simp; first | (refine hK _ ?_; clear hK K) | (apply Exists.intro; refine ⟨fun _ => ?_, hK _ ?_⟩; (first | exact xJ2 _ _ _ rfl | exact xH _ _ _ rfl); clear hK K))))
  refine Reg.wpE_nil ?_
  intro g4 hg
  refine ⟨fun w hw => ?_, ?_⟩
  · have d0 : w.cell? ⟨g4, 0, none⟩ = some (.int .u8 0) := (blk_cell hw 0).trans rfl
    have d1 : w.cell? ⟨g4, 1, none⟩ = some (.int .u8 0) := (blk_cell hw 1).trans rfl
    have d2 : w.cell? ⟨g4, 2, none⟩ = some (.int .u8 0) := (blk_cell hw 2).trans rfl
    have d3 : w.cell? ⟨g4, 3, none⟩ = some (.int .u8 0) := (blk_cell hw 3).trans rfl
    have f0 : w.frozen? ⟨g4, 0, none⟩ = false := blk_frozen hw 0
    have f1 : w.frozen? ⟨g4, 1, none⟩ = false := blk_frozen hw 1
    have f2 : w.frozen? ⟨g4, 2, none⟩ = false := blk_frozen hw 2
    have f3 : w.frozen? ⟨g4, 3, none⟩ = false := blk_frozen hw 3
    refine ⟨_, ?_, Put.set (Put.set (Put.set (Put.set (Put.refl hw) 0 _) 1 _) 2 _) 3 _⟩
    go_simp
  intro w5 hb hN
  clear xJ2 xH k0_0 k0_1 k0_2 k0_3 k1_0 k1_1 k1_2 k1_3 k2_0 k2_1 k2_2 k2_3 k3_0 k3_1 k3_2 k3_3 k4_0 k4_1 k4_2 k4_3
  have G0 := Reg.blk_later H0.out hb
  have G1 := Reg.blk_later H1.out hb
  have G2 := Reg.blk_later H2.out hb
  have G3 := Reg.blk_later H3.out hb
  have G4 := Reg.blk_later H4.out hb
  have G5 : w5.heap[g4]? = some (.cells #[.int .u8 z0, .int .u8 z1, .int .u8 z2, .int .u8 z3] 24 (0, 0)) := hN
  have hE : Ext W w5 := Ext.trans HE4.out hb
  have HE5 := Lib.hid hE
  clear hE hb hN hg HE4 H0 H1 H2 H3 H4
  have c0_0 : w5.cell? ⟨W.heap.size, 0, none⟩ = some (.int .u8 a0) := (blk_cell G0 0).trans rfl
  have c0_1 : w5.cell? ⟨W.heap.size, 1, none⟩ = some (.int .u8 a1) := (blk_cell G0 1).trans rfl
  have c0_2 : w5.cell? ⟨W.heap.size, 2, none⟩ = some (.int .u8 a2) := (blk_cell G0 2).trans rfl
  have c0_3 : w5.cell? ⟨W.heap.size, 3, none⟩ = some (.int .u8 a3) := (blk_cell G0 3).trans rfl
  have H0 := Lib.hid G0
  clear G0
  have c1_0 : w5.cell? ⟨W.heap.size + 1, 0, none⟩ = some (.int .u8 b0) := (blk_cell G1 0).trans rfl
  have c1_1 : w5.cell? ⟨W.heap.size + 1, 1, none⟩ = some (.int .u8 b1) := (blk_cell G1 1).trans rfl
  have c1_2 : w5.cell? ⟨W.heap.size + 1, 2, none⟩ = some (.int .u8 b2) := (blk_cell G1 2).trans rfl
  have c1_3 : w5.cell? ⟨W.heap.size + 1, 3, none⟩ = some (.int .u8 b3) := (blk_cell G1 3).trans rfl
  have H1 := Lib.hid G1
  clear G1
  have c2_0 : w5.cell? ⟨W.heap.size + 1 + 1, 0, none⟩ = some (.int .u8 c0) := (blk_cell G2 0).trans rfl
  have c2_1 : w5.cell? ⟨W.heap.size + 1 + 1, 1, none⟩ = some (.int .u8 c1) := (blk_cell G2 1).trans rfl
  have c2_2 : w5.cell? ⟨W.heap.size + 1 + 1, 2, none⟩ = some (.int .u8 c2) := (blk_cell G2 2).trans rfl
  have c2_3 : w5.cell? ⟨W.heap.size + 1 + 1, 3, none⟩ = some (.int .u8 c3) := (blk_cell G2 3).trans rfl
  have H2 := Lib.hid G2
  clear G2
  have c3_0 : w5.cell? ⟨w2.heap.size, 0, none⟩ = some (.int .u8 x0) := (blk_cell G3 0).trans rfl
  have c3_1 : w5.cell? ⟨w2.heap.size, 1, none⟩ = some (.int .u8 x1) := (blk_cell G3 1).trans rfl
  have c3_2 : w5.cell? ⟨w2.heap.size, 2, none⟩ = some (.int .u8 x2) := (blk_cell G3 2).trans rfl
  have c3_3 : w5.cell? ⟨w2.heap.size, 3, none⟩ = some (.int .u8 x3) := (blk_cell G3 3).trans rfl
  have H3 := Lib.hid G3
  clear G3
  have c4_0 : w5.cell? ⟨g3, 0, none⟩ = some (.int .u8 y0) := (blk_cell G4 0).trans rfl
  have c4_1 : w5.cell? ⟨g3, 1, none⟩ = some (.int .u8 y1) := (blk_cell G4 1).trans rfl
  have c4_2 : w5.cell? ⟨g3, 2, none⟩ = some (.int .u8 y2) := (blk_cell G4 2).trans rfl
  have c4_3 : w5.cell? ⟨g3, 3, none⟩ = some (.int .u8 y3) := (blk_cell G4 3).trans rfl
  have H4 := Lib.hid G4
  clear G4
  have c5_0 : w5.cell? ⟨g4, 0, none⟩ = some (.int .u8 z0) := (blk_cell G5 0).trans rfl
  have c5_1 : w5.cell? ⟨g4, 1, none⟩ = some (.int .u8 z1) := (blk_cell G5 1).trans rfl
  have c5_2 : w5.cell? ⟨g4, 2, none⟩ = some (.int .u8 z2) := (blk_cell G5 2).trans rfl
  have c5_3 : w5.cell? ⟨g4, 3, none⟩ = some (.int .u8 z3) := (blk_cell G5 3).trans rfl
  have H5 := Lib.hid G5
  clear G5
  go_wp2_with fail
  have k0_0 := cell_regrown c0_0
  have k0_1 := cell_regrown c0_1
  have k0_2 := cell_regrown c0_2
  have k0_3 := cell_regrown c0_3
  have k1_0 := cell_regrown c1_0
  have k1_1 := cell_regrown c1_1
  have k1_2 := cell_regrown c1_2
  have k1_3 := cell_regrown c1_3
  have k2_0 := cell_regrown c2_0
  have k2_1 := cell_regrown c2_1
  have k2_2 := cell_regrown c2_2
  have k2_3 := cell_regrown c2_3
  have k3_0 := cell_regrown c3_0
  have k3_1 := cell_regrown c3_1
  have k3_2 := cell_regrown c3_2
  have k3_3 := cell_regrown c3_3
  have k4_0 := cell_regrown c4_0
  have k4_1 := cell_regrown c4_1
  have k4_2 := cell_regrown c4_2
  have k4_3 := cell_regrown c4_3
  have k5_0 := cell_regrown c5_0
  have k5_1 := cell_regrown c5_1
  have k5_2 := cell_regrown c5_2
  have k5_3 := cell_regrown c5_3
  clear c0_0 c0_1 c0_2 c0_3 c1_0 c1_1 c1_2 c1_3 c2_0 c2_1 c2_2 c2_3 c3_0 c3_1 c3_2 c3_3 c4_0 c4_1 c4_2 c4_3 c5_0 c5_1 c5_2 c5_3
  have xJX := Reg.call_cl JX w5
  have xJZ := Reg.call_cl JZ w5
  refine Reg.wp_region_reads (B := w5) (by kernel_rfl) (by kernel_rfl) (Below.refl _ w5) ?_
  (repeat (first | go_big_quiet_step (first | exact xJX _ _ _ rfl | exact xJZ _ _ _ rfl) | quiet_step (first | exact xJX _ _ _ rfl | exact xJZ _ _ _ rfl)))
  refine wpQuiet_nil ?_
  intro _ hw'
  obtain ⟨⟨dq, osq⟩, hw''⟩ := hw'
  subst hw''
  have hE := HE5.out
  go_wp2
  go_ret
  exact ⟨rfl, Ext.trans hE (Ext.of_cl w5 dq osq)⟩
theorem range8 {x : Int} (h : (Lit.int .u8 x).wf = true) : 0 ≤ x ∧ x < 256 := by
  have := bounds_u8 h; omega
theorem exT {t : T4} (h : wf24 t) : ∃ f : TF, t = ofF f := exF (range8 h.1) (range8 h.2.1) (range8 h.2.2.1) (range8 h.2.2.2)
theorem range32 {x : Int} (h : (Lit.int .u32 x).wf = true) : 0 ≤ x ∧ x < 4294967296 := by
  have := bounds_u32 h; omega
theorem eqs_false {x y : TF} (h : ¬ tagF x = tagF y) : (iv (x 0) == iv (y 0) && (iv (x 1) == iv (y 1) && (iv (x 2) == iv (y 2) && iv (x 3) == iv (y 3)))) = false := by
  rw [Bool.eq_false_iff]
  intro hh
  simp only [Bool.and_eq_true, beq_iff_eq, iv_inj] at hh
  exact h (tagF_at (fun q hq => by rcases (by omega : q = 0 ∨ q = 1 ∨ q = 2 ∨ q = 3) with rfl | rfl | rfl | rfl; exact hh.1; exact hh.2.1; exact hh.2.2.1; exact hh.2.2.2))
theorem walk (W : World) (x0 : Int) (wx0 : (Lit.int .i64 x0).wf = true) (x1 : Int) (wx1 : (Lit.int .u32 x1).wf = true) (x2 : Int) (wx2 : (Lit.int .u32 x2).wf = true) (x3 : (Int × Int × Int × Int)) (wx3 : wf24 x3) (x4 : (Int × Int × Int × Int)) (wx4 : wf24 x4) (x5 : (Int × Int × Int × Int)) (wx5 : wf24 x5) :
    Calls Try.prog 6 #[.int .i64 x0, .int .u32 x1, .int .u32 x2, .agg #[.int .u8 x3.1, .int .u8 x3.2.1, .int .u8 x3.2.2.1, .int .u8 x3.2.2.2], .agg #[.int .u8 x4.1, .int .u8 x4.2.1, .int .u8 x4.2.2.1, .int .u8 x4.2.2.2], .agg #[.int .u8 x5.1, .int .u8 x5.2.1, .int .u8 x5.2.2.1, .int .u8 x5.2.2.2]] W fun e w' => e = .returned (.bool true) ∧ Below W.heap.size W w' := by
  obtain ⟨f, rfl⟩ := exT wx3
  obtain ⟨g, rfl⟩ := exT wx4
  obtain ⟨h, rfl⟩ := exT wx5
  obtain ⟨ha, ha'⟩ := range32 wx1
  obtain ⟨hb, hb'⟩ := range32 wx2
  have F := flowC x0 x1 x2 f g ha ha' hb hb'
  have G := flowC x0 x1 x2 (joinF f h) g ha ha' hb hb'
  have H := flowC x0 x1 x2 f (joinF g h) ha ha' hb hb'
  have JX := joinC (flowF x0 x1 x2 f g) (flowF x0 x1 x2 (joinF f h) g)
  rw [rises_a x0 x1 x2 f g h hb] at JX
  have JZ := joinC (flowF x0 x1 x2 f g) (flowF x0 x1 x2 f (joinF g h))
  by_cases hz : tagF (joinF (flowF x0 x1 x2 f g) (flowF x0 x1 x2 f (joinF g h))) = tagF (flowF x0 x1 x2 f (joinF g h))
  · rw [hz] at JZ
    exact core (a0 := iv (f 0)) (a1 := iv (f 1)) (a2 := iv (f 2)) (a3 := iv (f 3)) (b0 := iv (g 0)) (b1 := iv (g 1)) (b2 := iv (g 2)) (b3 := iv (g 3)) (c0 := iv (h 0)) (c1 := iv (h 1)) (c2 := iv (h 2)) (c3 := iv (h 3)) (x0 := iv (flowF x0 x1 x2 f g 0)) (x1 := iv (flowF x0 x1 x2 f g 1)) (x2 := iv (flowF x0 x1 x2 f g 2)) (x3 := iv (flowF x0 x1 x2 f g 3)) (y0 := iv (flowF x0 x1 x2 (joinF f h) g 0)) (y1 := iv (flowF x0 x1 x2 (joinF f h) g 1)) (y2 := iv (flowF x0 x1 x2 (joinF f h) g 2)) (y3 := iv (flowF x0 x1 x2 (joinF f h) g 3)) (z0 := iv (flowF x0 x1 x2 f (joinF g h) 0)) (z1 := iv (flowF x0 x1 x2 f (joinF g h) 1)) (z2 := iv (flowF x0 x1 x2 f (joinF g h) 2)) (z3 := iv (flowF x0 x1 x2 f (joinF g h) 3)) (j0 := iv (joinF f h 0)) (j1 := iv (joinF f h 1)) (j2 := iv (joinF f h 2)) (j3 := iv (joinF f h 3)) (k0 := iv (joinF g h 0)) (k1 := iv (joinF g h 1)) (k2 := iv (joinF g h 2)) (k3 := iv (joinF g h 3)) F (joinC f h) G (joinC g h) H JX JZ
  · have hne := eqs_false hz
    rcases (Decidable.em (x0 = 2 ∨ x0 = 6 ∨ x0 = 7)) with hk | hk
    · rcases hk with rfl | rfl | rfl
      · exact core2 (a0 := iv (f 0)) (a1 := iv (f 1)) (a2 := iv (f 2)) (a3 := iv (f 3)) (b0 := iv (g 0)) (b1 := iv (g 1)) (b2 := iv (g 2)) (b3 := iv (g 3)) (c0 := iv (h 0)) (c1 := iv (h 1)) (c2 := iv (h 2)) (c3 := iv (h 3)) (x0 := iv (flowF 2 x1 x2 f g 0)) (x1 := iv (flowF 2 x1 x2 f g 1)) (x2 := iv (flowF 2 x1 x2 f g 2)) (x3 := iv (flowF 2 x1 x2 f g 3)) (y0 := iv (flowF 2 x1 x2 (joinF f h) g 0)) (y1 := iv (flowF 2 x1 x2 (joinF f h) g 1)) (y2 := iv (flowF 2 x1 x2 (joinF f h) g 2)) (y3 := iv (flowF 2 x1 x2 (joinF f h) g 3)) (z0 := iv (flowF 2 x1 x2 f (joinF g h) 0)) (z1 := iv (flowF 2 x1 x2 f (joinF g h) 1)) (z2 := iv (flowF 2 x1 x2 f (joinF g h) 2)) (z3 := iv (flowF 2 x1 x2 f (joinF g h) 3)) (j0 := iv (joinF f h 0)) (j1 := iv (joinF f h 1)) (j2 := iv (joinF f h 2)) (j3 := iv (joinF f h 3)) (k0 := iv (joinF g h 0)) (k1 := iv (joinF g h 1)) (k2 := iv (joinF g h 2)) (k3 := iv (joinF g h 3)) (m0 := iv (joinF (flowF 2 x1 x2 f g) (flowF 2 x1 x2 f (joinF g h)) 0)) (m1 := iv (joinF (flowF 2 x1 x2 f g) (flowF 2 x1 x2 f (joinF g h)) 1)) (m2 := iv (joinF (flowF 2 x1 x2 f g) (flowF 2 x1 x2 f (joinF g h)) 2)) (m3 := iv (joinF (flowF 2 x1 x2 f g) (flowF 2 x1 x2 f (joinF g h)) 3)) F (joinC f h) G (joinC g h) H JX JZ hne
      · exact core6 (a0 := iv (f 0)) (a1 := iv (f 1)) (a2 := iv (f 2)) (a3 := iv (f 3)) (b0 := iv (g 0)) (b1 := iv (g 1)) (b2 := iv (g 2)) (b3 := iv (g 3)) (c0 := iv (h 0)) (c1 := iv (h 1)) (c2 := iv (h 2)) (c3 := iv (h 3)) (x0 := iv (flowF 6 x1 x2 f g 0)) (x1 := iv (flowF 6 x1 x2 f g 1)) (x2 := iv (flowF 6 x1 x2 f g 2)) (x3 := iv (flowF 6 x1 x2 f g 3)) (y0 := iv (flowF 6 x1 x2 (joinF f h) g 0)) (y1 := iv (flowF 6 x1 x2 (joinF f h) g 1)) (y2 := iv (flowF 6 x1 x2 (joinF f h) g 2)) (y3 := iv (flowF 6 x1 x2 (joinF f h) g 3)) (z0 := iv (flowF 6 x1 x2 f (joinF g h) 0)) (z1 := iv (flowF 6 x1 x2 f (joinF g h) 1)) (z2 := iv (flowF 6 x1 x2 f (joinF g h) 2)) (z3 := iv (flowF 6 x1 x2 f (joinF g h) 3)) (j0 := iv (joinF f h 0)) (j1 := iv (joinF f h 1)) (j2 := iv (joinF f h 2)) (j3 := iv (joinF f h 3)) (k0 := iv (joinF g h 0)) (k1 := iv (joinF g h 1)) (k2 := iv (joinF g h 2)) (k3 := iv (joinF g h 3)) (m0 := iv (joinF (flowF 6 x1 x2 f g) (flowF 6 x1 x2 f (joinF g h)) 0)) (m1 := iv (joinF (flowF 6 x1 x2 f g) (flowF 6 x1 x2 f (joinF g h)) 1)) (m2 := iv (joinF (flowF 6 x1 x2 f g) (flowF 6 x1 x2 f (joinF g h)) 2)) (m3 := iv (joinF (flowF 6 x1 x2 f g) (flowF 6 x1 x2 f (joinF g h)) 3)) F (joinC f h) G (joinC g h) H JX JZ hne
      · exact core7 (a0 := iv (f 0)) (a1 := iv (f 1)) (a2 := iv (f 2)) (a3 := iv (f 3)) (b0 := iv (g 0)) (b1 := iv (g 1)) (b2 := iv (g 2)) (b3 := iv (g 3)) (c0 := iv (h 0)) (c1 := iv (h 1)) (c2 := iv (h 2)) (c3 := iv (h 3)) (x0 := iv (flowF 7 x1 x2 f g 0)) (x1 := iv (flowF 7 x1 x2 f g 1)) (x2 := iv (flowF 7 x1 x2 f g 2)) (x3 := iv (flowF 7 x1 x2 f g 3)) (y0 := iv (flowF 7 x1 x2 (joinF f h) g 0)) (y1 := iv (flowF 7 x1 x2 (joinF f h) g 1)) (y2 := iv (flowF 7 x1 x2 (joinF f h) g 2)) (y3 := iv (flowF 7 x1 x2 (joinF f h) g 3)) (z0 := iv (flowF 7 x1 x2 f (joinF g h) 0)) (z1 := iv (flowF 7 x1 x2 f (joinF g h) 1)) (z2 := iv (flowF 7 x1 x2 f (joinF g h) 2)) (z3 := iv (flowF 7 x1 x2 f (joinF g h) 3)) (j0 := iv (joinF f h 0)) (j1 := iv (joinF f h 1)) (j2 := iv (joinF f h 2)) (j3 := iv (joinF f h 3)) (k0 := iv (joinF g h 0)) (k1 := iv (joinF g h 1)) (k2 := iv (joinF g h 2)) (k3 := iv (joinF g h 3)) (m0 := iv (joinF (flowF 7 x1 x2 f g) (flowF 7 x1 x2 f (joinF g h)) 0)) (m1 := iv (joinF (flowF 7 x1 x2 f g) (flowF 7 x1 x2 f (joinF g h)) 1)) (m2 := iv (joinF (flowF 7 x1 x2 f g) (flowF 7 x1 x2 f (joinF g h)) 2)) (m3 := iv (joinF (flowF 7 x1 x2 f g) (flowF 7 x1 x2 f (joinF g h)) 3)) F (joinC f h) G (joinC g h) H JX JZ hne
    · exact absurd (rises_b x0 x1 x2 f g h hk) hz
end Go.Proofs.Ytbhoijkamnaopaa.TagRises
