/- What Flow answers. -/
import Derived.Test.YtbhoijkamnaopaaTagOp
import Derived.StillTailTactics
import Derived.BigRegion
import Derived.LoopN
import Derived.Deep.RegionHeld3
import Derived.Lib.Hide
namespace Go.Proofs.Ytbhoijkamnaopaa.Tag
open Go Go.RowKit Go.Proofs.YtbhoijkamnaopaaW.PrintWords Go.Proofs.YtbhoijkamnaopaaW.PrintLast Go.Proofs.YtbhoijkamnaopaaW.PrintMore
set_option linter.unusedVariables false
set_option linter.unusedSimpArgs false
set_option maxRecDepth 100000 in
set_option maxHeartbeats 40000000 in
theorem flow13d6_ (a b a0 a1 a2 a3 b0 b1 b2 b3 r e al ll : Int) (w : World) (hD : Alu.alu_Do.f 6 a b = some (r, e)) (A : ∀ w, Calls Try.prog 17 #[.agg #[.int .u8 a0, .int .u8 a1, .int .u8 a2, .int .u8 a3]] w (Ret (.int .u8 al) (w.alloc (.cells #[.int .u8 a0, .int .u8 a1, .int .u8 a2, .int .u8 a3] 24)))) (F : ∀ w, Calls Try.prog 20 #[.int .u8 (bits .or .u8 al b0)] w (Ret (.agg #[.int .u8 ll, .int .u8 ll, .int .u8 ll, .int .u8 ll]) (w.alloc (.cells #[.int .u8 ll, .int .u8 ll, .int .u8 ll, .int .u8 ll] 24)))) (he : e = 0) (hz : ¬ b0 = 0) : Calls Try.prog 13 #[.int .i64 6, .int .u32 a, .int .u32 b, .agg #[.int .u8 a0, .int .u8 a1, .int .u8 a2, .int .u8 a3], .agg #[.int .u8 b0, .int .u8 b1, .int .u8 b2, .int .u8 b3]] w (RetE (.tuple #[.agg #[.int .u8 ll, .int .u8 ll, .int .u8 ll, .int .u8 ll], .int .i64 0]) w) := by
  subst he
  have HZ := Lib.hid hz
  clear hz
  go_enter Try.func13, Try.ntmps13
  go_wp2_with (go_at_call 16; refine (Alu.alu_Do.calls _ _ _ _ _ _ hD).mono ?_; rintro e w' ⟨rfl, ⟨n, rfl⟩⟩)
  clear hD
  go_region_held3 (fun w' => w'.cell? ⟨w.heap.size, 0, none⟩ = some (.int .u8 a0) ∧ w'.cell? ⟨w.heap.size, 1, none⟩ = some (.int .u8 a1) ∧ w'.cell? ⟨w.heap.size, 2, none⟩ = some (.int .u8 a2) ∧ w'.cell? ⟨w.heap.size, 3, none⟩ = some (.int .u8 a3) ∧ w'.cell? ⟨w.heap.size + 1, 0, none⟩ = some (.int .u8 b0) ∧ w'.cell? ⟨w.heap.size + 1, 1, none⟩ = some (.int .u8 b1) ∧ w'.cell? ⟨w.heap.size + 1, 2, none⟩ = some (.int .u8 b2) ∧ w'.cell? ⟨w.heap.size + 1, 3, none⟩ = some (.int .u8 b3)) (first | (go_keep; done) | ((repeat' (first | (refine tk_new ?hb ?hc; (case hb => (simp [go_sem]; done)); (case hc => rfl)) | refine tk_drewN ?_ | refine tk_drew ?_ | refine tk_alloc ?_ | assumption | refine And.intro ?_ ?_)); done)) (first | (go_at_call 17; refine (all17o _ _ _ _ _).mono ?_; rintro e w' ⟨rfl, n, rfl⟩))
  rename_i hx
  clear hx
  have hz := HZ.out
  clear HZ
  go_wp2_with fail
  have HZ := Lib.hid hz
  clear hz
  go_region_held3 (fun w' => w'.cell? ⟨w.heap.size, 0, none⟩ = some (.int .u8 a0) ∧ w'.cell? ⟨w.heap.size, 1, none⟩ = some (.int .u8 a1) ∧ w'.cell? ⟨w.heap.size, 2, none⟩ = some (.int .u8 a2) ∧ w'.cell? ⟨w.heap.size, 3, none⟩ = some (.int .u8 a3) ∧ w'.cell? ⟨w.heap.size + 1, 0, none⟩ = some (.int .u8 b0) ∧ w'.cell? ⟨w.heap.size + 1, 1, none⟩ = some (.int .u8 b1) ∧ w'.cell? ⟨w.heap.size + 1, 2, none⟩ = some (.int .u8 b2) ∧ w'.cell? ⟨w.heap.size + 1, 3, none⟩ = some (.int .u8 b3)) (first | (go_keep; done) | ((repeat' (first | (refine tk_new ?hb ?hc; (case hb => (simp [go_sem]; done)); (case hc => rfl)) | refine tk_drewN ?_ | refine tk_drew ?_ | refine tk_alloc ?_ | assumption | refine And.intro ?_ ?_)); done)) (first | (go_at_call 17; (refine (A _).mono ?_; rintro e w' ⟨rfl, n, rfl⟩)) | (go_at_call 20; (refine (F _).mono ?_; rintro e w' ⟨rfl, n, rfl⟩)))
  rename_i hx
  clear hx
  go_wp2_with fail
  refine bodyPost_ret (v := .tuple #[.agg #[.int .u8 ll, .int .u8 ll, .int .u8 ll, .int .u8 ll], .int .i64 0]) (by simp [results, Try.results13, go_sem]) rfl ?_
  exact ⟨rfl, by (repeat' (first | assumption | exact Ext.refl _ | refine Ext.drewN ?_ | refine Ext.drew ?_ | refine Ext.alloc ?_))⟩
end Go.Proofs.Ytbhoijkamnaopaa.Tag
