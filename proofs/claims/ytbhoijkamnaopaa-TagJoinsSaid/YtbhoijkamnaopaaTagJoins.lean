/- TagJoins: its walk. -/
import Derived.Test.YtbhoijkamnaopaaTagC
import Derived.Test.YtbhoijkamnaopaaTagAwake
import Derived.Test.YtbhoijkamnaopaaOpenT
import Derived.StillTailTactics
import Derived.BigRegion
import Derived.LoopN
import Derived.Deep.RegionHeld3
import Derived.Lib.Hide
namespace Go.Proofs.Ytbhoijkamnaopaa.TagJoins
open Go Go.RowKit Go.Proofs.YtbhoijkamnaopaaW.PrintWords Go.Proofs.YtbhoijkamnaopaaW.PrintLast Go.Proofs.YtbhoijkamnaopaaW.PrintMore Go.Proofs.Ytbhoijkamnaopaa.Tag Go.Proofs.Ytbhoijkamnaopaa Go.Sort Go.Proofs.Ytbhoijkamnaopaa.Open Go.Proofs.Ytbhoijkamnaopaa.OpenT
set_option linter.unusedVariables false
set_option linter.unusedSimpArgs false
attribute [local go_sem] Reg.qeOp Reg.qeUpon
set_option maxRecDepth 100000 in
set_option maxHeartbeats 40000000 in
theorem core {W : World} {a0 a1 a2 a3 b0 b1 b2 b3 c0 c1 c2 c3 j0 j1 j2 j3 k0 k1 k2 k3 m0 m1 m2 m3 u0 u1 u2 u3 ls lt : Int} (Jst : ∀ w : World, Calls Try.prog 18 #[.agg #[.int .u8 a0, .int .u8 a1, .int .u8 a2, .int .u8 a3], .agg #[.int .u8 b0, .int .u8 b1, .int .u8 b2, .int .u8 b3]] w (RetE (.agg #[.int .u8 j0, .int .u8 j1, .int .u8 j2, .int .u8 j3]) w)) (Jts : ∀ w : World, Calls Try.prog 18 #[.agg #[.int .u8 b0, .int .u8 b1, .int .u8 b2, .int .u8 b3], .agg #[.int .u8 a0, .int .u8 a1, .int .u8 a2, .int .u8 a3]] w (RetE (.agg #[.int .u8 j0, .int .u8 j1, .int .u8 j2, .int .u8 j3]) w)) (Jtu : ∀ w : World, Calls Try.prog 18 #[.agg #[.int .u8 b0, .int .u8 b1, .int .u8 b2, .int .u8 b3], .agg #[.int .u8 c0, .int .u8 c1, .int .u8 c2, .int .u8 c3]] w (RetE (.agg #[.int .u8 k0, .int .u8 k1, .int .u8 k2, .int .u8 k3]) w)) (Jsk : ∀ w : World, Calls Try.prog 18 #[.agg #[.int .u8 a0, .int .u8 a1, .int .u8 a2, .int .u8 a3], .agg #[.int .u8 k0, .int .u8 k1, .int .u8 k2, .int .u8 k3]] w (RetE (.agg #[.int .u8 m0, .int .u8 m1, .int .u8 m2, .int .u8 m3]) w)) (Jju : ∀ w : World, Calls Try.prog 18 #[.agg #[.int .u8 j0, .int .u8 j1, .int .u8 j2, .int .u8 j3], .agg #[.int .u8 c0, .int .u8 c1, .int .u8 c2, .int .u8 c3]] w (RetE (.agg #[.int .u8 m0, .int .u8 m1, .int .u8 m2, .int .u8 m3]) w)) (Jss : ∀ w : World, Calls Try.prog 18 #[.agg #[.int .u8 a0, .int .u8 a1, .int .u8 a2, .int .u8 a3], .agg #[.int .u8 a0, .int .u8 a1, .int .u8 a2, .int .u8 a3]] w (RetE (.agg #[.int .u8 a0, .int .u8 a1, .int .u8 a2, .int .u8 a3]) w)) (Jsz : ∀ w : World, Calls Try.prog 18 #[.agg #[.int .u8 a0, .int .u8 a1, .int .u8 a2, .int .u8 a3], .agg #[.int .u8 0, .int .u8 0, .int .u8 0, .int .u8 0]] w (RetE (.agg #[.int .u8 a0, .int .u8 a1, .int .u8 a2, .int .u8 a3]) w)) (Aj : ∀ w : World, Calls Try.prog 17 #[.agg #[.int .u8 j0, .int .u8 j1, .int .u8 j2, .int .u8 j3]] w (RetE (.int .u8 (bits .or .u8 ls lt)) w)) (As : ∀ w : World, Calls Try.prog 17 #[.agg #[.int .u8 a0, .int .u8 a1, .int .u8 a2, .int .u8 a3]] w (RetE (.int .u8 ls) w)) (At : ∀ w : World, Calls Try.prog 17 #[.agg #[.int .u8 b0, .int .u8 b1, .int .u8 b2, .int .u8 b3]] w (RetE (.int .u8 lt) w)) (Us : ∀ w : World, Calls Try.prog 19 #[.agg #[.int .u8 a0, .int .u8 a1, .int .u8 a2, .int .u8 a3]] w (RetE (.agg #[.int .u8 u0, .int .u8 u1, .int .u8 u2, .int .u8 u3]) w)) (Uu : ∀ w : World, Calls Try.prog 19 #[.agg #[.int .u8 u0, .int .u8 u1, .int .u8 u2, .int .u8 u3]] w (RetE (.agg #[.int .u8 u0, .int .u8 u1, .int .u8 u2, .int .u8 u3]) w)) (Au : ∀ w : World, Calls Try.prog 17 #[.agg #[.int .u8 u0, .int .u8 u1, .int .u8 u2, .int .u8 u3]] w (RetE (.int .u8 ls) w)) : Calls Try.prog 7 #[.agg #[.int .u8 a0, .int .u8 a1, .int .u8 a2, .int .u8 a3], .agg #[.int .u8 b0, .int .u8 b1, .int .u8 b2, .int .u8 b3], .agg #[.int .u8 c0, .int .u8 c1, .int .u8 c2, .int .u8 c3]] W (RetE (.bool true) W) := by
  go_enter Try.func7, Try.ntmps7
  go_wp2_with (first | (go_at_call 12; refine (awake12 _).mono ?_; rintro e w' ⟨rfl, hE⟩))
  have g0 : w'.heap[W.heap.size]? = some (.cells #[.int .u8 a0, .int .u8 a1, .int .u8 a2, .int .u8 a3] 24 (0, 0)) := Reg.blk_later (by have h := blk_alloc (blk_alloc (blk_new W (.cells #[.int .u8 a0, .int .u8 a1, .int .u8 a2, .int .u8 a3] 24)) (.cells #[.int .u8 b0, .int .u8 b1, .int .u8 b2, .int .u8 b3] 24)) (.cells #[.int .u8 c0, .int .u8 c1, .int .u8 c2, .int .u8 c3] 24); simpa using h) hE
  have g1 : w'.heap[W.heap.size + 1]? = some (.cells #[.int .u8 b0, .int .u8 b1, .int .u8 b2, .int .u8 b3] 24 (0, 0)) := Reg.blk_later (by have h := blk_alloc (blk_new (W.alloc (.cells #[.int .u8 a0, .int .u8 a1, .int .u8 a2, .int .u8 a3] 24)) (.cells #[.int .u8 b0, .int .u8 b1, .int .u8 b2, .int .u8 b3] 24)) (.cells #[.int .u8 c0, .int .u8 c1, .int .u8 c2, .int .u8 c3] 24); simpa using h) hE
  have g2 : w'.heap[W.heap.size + 1 + 1]? = some (.cells #[.int .u8 c0, .int .u8 c1, .int .u8 c2, .int .u8 c3] 24 (0, 0)) := Reg.blk_later (by have h := blk_new ((W.alloc (.cells #[.int .u8 a0, .int .u8 a1, .int .u8 a2, .int .u8 a3] 24)).alloc (.cells #[.int .u8 b0, .int .u8 b1, .int .u8 b2, .int .u8 b3] 24)) (.cells #[.int .u8 c0, .int .u8 c1, .int .u8 c2, .int .u8 c3] 24); simpa using h) hE
  refine Reg.wp_open (fun w' => Ext W w' ∧ w'.heap[W.heap.size]? = some (.cells #[.int .u8 a0, .int .u8 a1, .int .u8 a2, .int .u8 a3] 24 (0, 0)) ∧ w'.heap[W.heap.size + 1]? = some (.cells #[.int .u8 b0, .int .u8 b1, .int .u8 b2, .int .u8 b3] 24 (0, 0)) ∧ w'.heap[W.heap.size + 1 + 1]? = some (.cells #[.int .u8 c0, .int .u8 c1, .int .u8 c2, .int .u8 c3] 24 (0, 0))) ⟨Ext.trans (by (repeat' (first | assumption | exact Ext.refl _ | refine Ext.drewN ?_ | refine Ext.drew ?_ | refine Ext.alloc ?_))) hE, g0, g1, g2⟩ (fun Bq hS => ?_)
  clear hE g0 g1 g2
  obtain ⟨hE, g0, g1, g2⟩ := hS
  have HE := Lib.hid hE
  have q00 := cell_regrown ((blk_cell g0 0).trans rfl : Bq.cell? ⟨W.heap.size, 0, none⟩ = some _)
  have q01 := cell_regrown ((blk_cell g0 1).trans rfl : Bq.cell? ⟨W.heap.size, 1, none⟩ = some _)
  have q02 := cell_regrown ((blk_cell g0 2).trans rfl : Bq.cell? ⟨W.heap.size, 2, none⟩ = some _)
  have q03 := cell_regrown ((blk_cell g0 3).trans rfl : Bq.cell? ⟨W.heap.size, 3, none⟩ = some _)
  have q10 := cell_regrown ((blk_cell g1 0).trans rfl : Bq.cell? ⟨W.heap.size + 1, 0, none⟩ = some _)
  have q11 := cell_regrown ((blk_cell g1 1).trans rfl : Bq.cell? ⟨W.heap.size + 1, 1, none⟩ = some _)
  have q12 := cell_regrown ((blk_cell g1 2).trans rfl : Bq.cell? ⟨W.heap.size + 1, 2, none⟩ = some _)
  have q13 := cell_regrown ((blk_cell g1 3).trans rfl : Bq.cell? ⟨W.heap.size + 1, 3, none⟩ = some _)
  have q20 := cell_regrown ((blk_cell g2 0).trans rfl : Bq.cell? ⟨W.heap.size + 1 + 1, 0, none⟩ = some _)
  have q21 := cell_regrown ((blk_cell g2 1).trans rfl : Bq.cell? ⟨W.heap.size + 1 + 1, 1, none⟩ = some _)
  have q22 := cell_regrown ((blk_cell g2 2).trans rfl : Bq.cell? ⟨W.heap.size + 1 + 1, 2, none⟩ = some _)
  have q23 := cell_regrown ((blk_cell g2 3).trans rfl : Bq.cell? ⟨W.heap.size + 1 + 1, 3, none⟩ = some _)
  have xJst := Reg.call_cl Jst Bq
  have xJts := Reg.call_cl Jts Bq
  have xJtu := Reg.call_cl Jtu Bq
  have xJsk := Reg.call_cl Jsk Bq
  have xJju := Reg.call_cl Jju Bq
  have xJss := Reg.call_cl Jss Bq
  have xJsz := Reg.call_cl Jsz Bq
  have xAj := Reg.call_cl Aj Bq
  have xAs := Reg.call_cl As Bq
  have xAt := Reg.call_cl At Bq
  have xUs := Reg.call_cl Us Bq
  have xUu := Reg.call_cl Uu Bq
  have xAu := Reg.call_cl Au Bq
  clear hE g0 g1 g2 Jst Jts Jtu Jsk Jju Jss Jsz Aj As At Us Uu Au
  refine Reg.wp_region_reads (B := Bq) (by kernel_rfl) (by kernel_rfl) (Below.refl _ Bq) ?_
  repeat (first | go_big_quiet_step (first | exact xJst _ _ _ rfl | exact xJts _ _ _ rfl | exact xJtu _ _ _ rfl | exact xJsk _ _ _ rfl | exact xJju _ _ _ rfl | exact xJss _ _ _ rfl | exact xJsz _ _ _ rfl | exact xAj _ _ _ rfl | exact xAs _ _ _ rfl | exact xAt _ _ _ rfl | exact xUs _ _ _ rfl | exact xUu _ _ _ rfl | exact xAu _ _ _ rfl) | quiet_step (first | exact xJst _ _ _ rfl | exact xJts _ _ _ rfl | exact xJtu _ _ _ rfl | exact xJsk _ _ _ rfl | exact xJju _ _ _ rfl | exact xJss _ _ _ rfl | exact xJsz _ _ _ rfl | exact xAj _ _ _ rfl | exact xAs _ _ _ rfl | exact xAt _ _ _ rfl | exact xUs _ _ _ rfl | exact xUu _ _ _ rfl | exact xAu _ _ _ rfl))
  refine wpQuiet_nil ?_
  intro _ hw'
  obtain ⟨⟨dq, osq⟩, hw''⟩ := hw'
  subst hw''
  have hE := HE.out
  go_wp2
  go_ret
  exact ⟨rfl, Ext.trans hE (Ext.of_cl Bq dq osq)⟩
theorem range8 {x : Int} (h : (Lit.int .u8 x).wf = true) : 0 ≤ x ∧ x < 256 := by
  have := bounds_u8 h; omega
theorem exT {t : T4} (h : wf24 t) : ∃ f : TF, t = ofF f := exF (range8 h.1) (range8 h.2.1) (range8 h.2.2.1) (range8 h.2.2.2)
theorem walk (W : World) (x0 : (Int × Int × Int × Int)) (wx0 : wf24 x0) (x1 : (Int × Int × Int × Int)) (wx1 : wf24 x1) (x2 : (Int × Int × Int × Int)) (wx2 : wf24 x2) :
    Calls Try.prog 7 #[.agg #[.int .u8 x0.1, .int .u8 x0.2.1, .int .u8 x0.2.2.1, .int .u8 x0.2.2.2], .agg #[.int .u8 x1.1, .int .u8 x1.2.1, .int .u8 x1.2.2.1, .int .u8 x1.2.2.2], .agg #[.int .u8 x2.1, .int .u8 x2.2.1, .int .u8 x2.2.2.1, .int .u8 x2.2.2.2]] W fun e w' => e = .returned (.bool true) ∧ Below W.heap.size W w' := by
  obtain ⟨f, rfl⟩ := exT wx0
  obtain ⟨g, rfl⟩ := exT wx1
  obtain ⟨h, rfl⟩ := exT wx2
  have e1 : joinF g f = joinF f g := join_comm g f
  have e2 : joinF (joinF f g) h = joinF f (joinF g h) := join_assoc f g h
  refine core (a0 := iv (f 0)) (a1 := iv (f 1)) (a2 := iv (f 2)) (a3 := iv (f 3)) (b0 := iv (g 0)) (b1 := iv (g 1)) (b2 := iv (g 2)) (b3 := iv (g 3)) (c0 := iv (h 0)) (c1 := iv (h 1)) (c2 := iv (h 2)) (c3 := iv (h 3)) (j0 := iv (joinF f g 0)) (j1 := iv (joinF f g 1)) (j2 := iv (joinF f g 2)) (j3 := iv (joinF f g 3)) (k0 := iv (joinF g h 0)) (k1 := iv (joinF g h 1)) (k2 := iv (joinF g h 2)) (k3 := iv (joinF g h 3)) (m0 := iv (joinF f (joinF g h) 0)) (m1 := iv (joinF f (joinF g h) 1)) (m2 := iv (joinF f (joinF g h) 2)) (m3 := iv (joinF f (joinF g h) 3)) (u0 := iv (upF f 0)) (u1 := iv (upF f 1)) (u2 := iv (upF f 2)) (u3 := iv (upF f 3)) (ls := iv (allF f)) (lt := iv (allF g)) (joinC f g) ?_ (joinC g h) (joinC f (joinF g h)) ?_ ?_ ?_ ?_ (allC f) (allC g) (upC f) ?_ ?_
  · have := joinC g f; rw [e1] at this; exact this
  · have := joinC (joinF f g) h; rw [e2] at this; exact this
  · have := joinC f f; rw [join_self] at this; exact this
  · have := joinC f (fun _ => 0); rw [join_none] at this; exact this
  · have := allC (joinF f g); rw [all_join, ← or8_iv] at this; exact this
  · have := upC (upF f); rw [up_up] at this; exact this
  · have := allC (upF f); rw [all_up] at this; exact this
end Go.Proofs.Ytbhoijkamnaopaa.TagJoins
