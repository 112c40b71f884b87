/- TagSays: its walk. -/
import Derived.Test.YtbhoijkamnaopaaTagC
import Derived.Test.YtbhoijkamnaopaaTagAwake
import Derived.Test.YtbhoijkamnaopaaOpenT
import Derived.StillTailTactics
import Derived.BigRegion
import Derived.LoopN
import Derived.Deep.RegionHeld3
import Derived.Lib.Hide
namespace Go.Proofs.Ytbhoijkamnaopaa.TagSays
open Go Go.RowKit Go.Proofs.YtbhoijkamnaopaaW.PrintWords Go.Proofs.YtbhoijkamnaopaaW.PrintLast Go.Proofs.YtbhoijkamnaopaaW.PrintMore Go.Proofs.Ytbhoijkamnaopaa.Tag Go.Proofs.Ytbhoijkamnaopaa Go.Sort Go.Proofs.Ytbhoijkamnaopaa.Open Go.Proofs.Ytbhoijkamnaopaa.OpenT
set_option linter.unusedVariables false
set_option linter.unusedSimpArgs false
attribute [local go_sem] Reg.qeOp Reg.qeUpon
set_option maxRecDepth 100000 in
set_option maxHeartbeats 40000000 in
theorem core {W : World} {a0 a1 a2 a3 b0 b1 b2 b3 j0 j1 j2 j3 u0 u1 u2 u3 n0 n1 n2 n3 ls l k : Int} {sg : Bool} (As : ∀ w : World, Calls Try.prog 17 #[.agg #[.int .u8 a0, .int .u8 a1, .int .u8 a2, .int .u8 a3]] w (RetE (.int .u8 ls) w)) (Ar : ∀ w : World, Calls Try.prog 22 #[.agg #[.int .u8 a0, .int .u8 a1, .int .u8 a2, .int .u8 a3]] w (RetE (.int .u8 ls) w)) (Fs : ∀ w : World, Calls Try.prog 20 #[.int .u8 l] w (RetE (.agg #[.int .u8 l, .int .u8 l, .int .u8 l, .int .u8 l]) w)) (Fr : ∀ w : World, Calls Try.prog 23 #[.int .u8 l] w (RetE (.agg #[.int .u8 l, .int .u8 l, .int .u8 l, .int .u8 l]) w)) (Js : ∀ w : World, Calls Try.prog 18 #[.agg #[.int .u8 a0, .int .u8 a1, .int .u8 a2, .int .u8 a3], .agg #[.int .u8 b0, .int .u8 b1, .int .u8 b2, .int .u8 b3]] w (RetE (.agg #[.int .u8 j0, .int .u8 j1, .int .u8 j2, .int .u8 j3]) w)) (Jr : ∀ w : World, Calls Try.prog 24 #[.agg #[.int .u8 a0, .int .u8 a1, .int .u8 a2, .int .u8 a3], .agg #[.int .u8 b0, .int .u8 b1, .int .u8 b2, .int .u8 b3]] w (RetE (.agg #[.int .u8 j0, .int .u8 j1, .int .u8 j2, .int .u8 j3]) w)) (Us : ∀ w : World, Calls Try.prog 19 #[.agg #[.int .u8 a0, .int .u8 a1, .int .u8 a2, .int .u8 a3]] w (RetE (.agg #[.int .u8 u0, .int .u8 u1, .int .u8 u2, .int .u8 u3]) w)) (Ur : ∀ w : World, Calls Try.prog 25 #[.agg #[.int .u8 a0, .int .u8 a1, .int .u8 a2, .int .u8 a3]] w (RetE (.agg #[.int .u8 u0, .int .u8 u1, .int .u8 u2, .int .u8 u3]) w)) (Ns : ∀ w : World, Calls Try.prog 21 #[.agg #[.int .u8 a0, .int .u8 a1, .int .u8 a2, .int .u8 a3], .int .i64 k, .bool sg] w (RetE (.agg #[.int .u8 n0, .int .u8 n1, .int .u8 n2, .int .u8 n3]) w)) (Nr : ∀ w : World, Calls Try.prog 26 #[.agg #[.int .u8 a0, .int .u8 a1, .int .u8 a2, .int .u8 a3], .int .i64 k, .bool sg] w (RetE (.agg #[.int .u8 n0, .int .u8 n1, .int .u8 n2, .int .u8 n3]) w)) : Calls Try.prog 10 #[.agg #[.int .u8 a0, .int .u8 a1, .int .u8 a2, .int .u8 a3], .agg #[.int .u8 b0, .int .u8 b1, .int .u8 b2, .int .u8 b3], .int .u8 l, .int .i64 k, .bool sg] W (RetE (.bool true) W) := by
  go_enter Try.func10, Try.ntmps10
  go_wp2_with (first | (go_at_call 12; refine (awake12 _).mono ?_; rintro e w' ⟨rfl, hE⟩))
  have g0 : w'.heap[W.heap.size]? = some (.cells #[.int .u8 a0, .int .u8 a1, .int .u8 a2, .int .u8 a3] 24 (0, 0)) := Reg.blk_later (by have h := blk_alloc (blk_new W (.cells #[.int .u8 a0, .int .u8 a1, .int .u8 a2, .int .u8 a3] 24)) (.cells #[.int .u8 b0, .int .u8 b1, .int .u8 b2, .int .u8 b3] 24); simpa using h) hE
  have g1 : w'.heap[W.heap.size + 1]? = some (.cells #[.int .u8 b0, .int .u8 b1, .int .u8 b2, .int .u8 b3] 24 (0, 0)) := Reg.blk_later (by have h := blk_new (W.alloc (.cells #[.int .u8 a0, .int .u8 a1, .int .u8 a2, .int .u8 a3] 24)) (.cells #[.int .u8 b0, .int .u8 b1, .int .u8 b2, .int .u8 b3] 24); simpa using h) hE
  refine Reg.wp_open (fun w' => Ext W w' ∧ w'.heap[W.heap.size]? = some (.cells #[.int .u8 a0, .int .u8 a1, .int .u8 a2, .int .u8 a3] 24 (0, 0)) ∧ w'.heap[W.heap.size + 1]? = some (.cells #[.int .u8 b0, .int .u8 b1, .int .u8 b2, .int .u8 b3] 24 (0, 0))) ⟨Ext.trans (by (repeat' (first | assumption | exact Ext.refl _ | refine Ext.drewN ?_ | refine Ext.drew ?_ | refine Ext.alloc ?_))) hE, g0, g1⟩ (fun Bq hS => ?_)
  clear hE g0 g1
  obtain ⟨hE, g0, g1⟩ := hS
  have HE := Lib.hid hE
  have q00 := cell_regrown ((blk_cell g0 0).trans rfl : Bq.cell? ⟨W.heap.size, 0, none⟩ = some _)
  have q01 := cell_regrown ((blk_cell g0 1).trans rfl : Bq.cell? ⟨W.heap.size, 1, none⟩ = some _)
  have q02 := cell_regrown ((blk_cell g0 2).trans rfl : Bq.cell? ⟨W.heap.size, 2, none⟩ = some _)
  have q03 := cell_regrown ((blk_cell g0 3).trans rfl : Bq.cell? ⟨W.heap.size, 3, none⟩ = some _)
  have q10 := cell_regrown ((blk_cell g1 0).trans rfl : Bq.cell? ⟨W.heap.size + 1, 0, none⟩ = some _)
  have q11 := cell_regrown ((blk_cell g1 1).trans rfl : Bq.cell? ⟨W.heap.size + 1, 1, none⟩ = some _)
  have q12 := cell_regrown ((blk_cell g1 2).trans rfl : Bq.cell? ⟨W.heap.size + 1, 2, none⟩ = some _)
  have q13 := cell_regrown ((blk_cell g1 3).trans rfl : Bq.cell? ⟨W.heap.size + 1, 3, none⟩ = some _)
  have xAs := Reg.call_cl As Bq
  have xAr := Reg.call_cl Ar Bq
  have xFs := Reg.call_cl Fs Bq
  have xFr := Reg.call_cl Fr Bq
  have xJs := Reg.call_cl Js Bq
  have xJr := Reg.call_cl Jr Bq
  have xUs := Reg.call_cl Us Bq
  have xUr := Reg.call_cl Ur Bq
  have xNs := Reg.call_cl Ns Bq
  have xNr := Reg.call_cl Nr Bq
  clear hE g0 g1 As Ar Fs Fr Js Jr Us Ur Ns Nr
  refine Reg.wp_region_reads (B := Bq) (by kernel_rfl) (by kernel_rfl) (Below.refl _ Bq) ?_
  repeat (first | go_big_quiet_step (first | exact xAs _ _ _ rfl | exact xAr _ _ _ rfl | exact xFs _ _ _ rfl | exact xFr _ _ _ rfl | exact xJs _ _ _ rfl | exact xJr _ _ _ rfl | exact xUs _ _ _ rfl | exact xUr _ _ _ rfl | exact xNs _ _ _ rfl | exact xNr _ _ _ rfl) | quiet_step (first | exact xAs _ _ _ rfl | exact xAr _ _ _ rfl | exact xFs _ _ _ rfl | exact xFr _ _ _ rfl | exact xJs _ _ _ rfl | exact xJr _ _ _ rfl | exact xUs _ _ _ rfl | exact xUr _ _ _ rfl | exact xNs _ _ _ rfl | exact xNr _ _ _ rfl))
  refine wpQuiet_nil ?_
  intro _ hw'
  obtain ⟨⟨dq, osq⟩, hw''⟩ := hw'
  subst hw''
  have hE := HE.out
  go_wp2
  go_ret
  exact ⟨rfl, Ext.trans hE (Ext.of_cl Bq dq osq)⟩
theorem range8 {x : Int} (h : (Lit.int .u8 x).wf = true) : 0 ≤ x ∧ x < 256 := by
  have := bounds_u8 h; omega
theorem exT {t : T4} (h : wf24 t) : ∃ f : TF, t = ofF f := exF (range8 h.1) (range8 h.2.1) (range8 h.2.2.1) (range8 h.2.2.2)
theorem walk (W : World) (x0 : (Int × Int × Int × Int)) (wx0 : wf24 x0) (x1 : (Int × Int × Int × Int)) (wx1 : wf24 x1) (x2 : Int) (wx2 : (Lit.int .u8 x2).wf = true) (x3 : Int) (wx3 : (Lit.int .i64 x3).wf = true) (x4 : Bool) :
    Calls Try.prog 10 #[.agg #[.int .u8 x0.1, .int .u8 x0.2.1, .int .u8 x0.2.2.1, .int .u8 x0.2.2.2], .agg #[.int .u8 x1.1, .int .u8 x1.2.1, .int .u8 x1.2.2.1, .int .u8 x1.2.2.2], .int .u8 x2, .int .i64 x3, .bool x4] W fun e w' => e = .returned (.bool true) ∧ Below W.heap.size W w' := by
  obtain ⟨f, rfl⟩ := exT wx0
  obtain ⟨g, rfl⟩ := exT wx1
  exact core (a0 := iv (f 0)) (a1 := iv (f 1)) (a2 := iv (f 2)) (a3 := iv (f 3)) (b0 := iv (g 0)) (b1 := iv (g 1)) (b2 := iv (g 2)) (b3 := iv (g 3)) (j0 := iv (joinF f g 0)) (j1 := iv (joinF f g 1)) (j2 := iv (joinF f g 2)) (j3 := iv (joinF f g 3)) (u0 := iv (upF f 0)) (u1 := iv (upF f 1)) (u2 := iv (upF f 2)) (u3 := iv (upF f 3)) (n0 := iv (narF f x3 x4 0)) (n1 := iv (narF f x3 x4 1)) (n2 := iv (narF f x3 x4 2)) (n3 := iv (narF f x3 x4 3)) (ls := iv (allF f)) (l := x2) (k := x3) (sg := x4) (allC f) (allR f) (fill20E x2) (fill23E x2) (joinC f g) (joinR f g) (upC f) (upR f) (narC f x3 x4) (narR f x3 x4)
end Go.Proofs.Ytbhoijkamnaopaa.TagSays
