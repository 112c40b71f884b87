/- What the reference's Text answers, over the contract of Num. -/
import Derived.Test.YtefijnbhdjpfpaaDoorI9
import Derived.Test.YtefijnbhdjpfpaaDoorReg
import Derived.Lib.Hide
namespace Go.Proofs.YtefijnbhdjpfpaaDoor.Ir
open Go Go.RowKit Go.Proofs.YtefijnbhdjpfpaaDoorW.PrintWords Go.Proofs.YtefijnbhdjpfpaaDoorW.PrintLast Go.Proofs.YtefijnbhdjpfpaaDoorW.PrintMore
set_option linter.unusedVariables false
set_option linter.unusedSimpArgs false
attribute [local go_sem] Reg.qeOp Reg.qeUpon
def NumSays (a : Int) (s : ByteArray) : Prop := ∀ w, Calls Tryd.prog 28 #[.int .i64 a] w fun e w' => e = .returned (.string s) ∧ Below w.heap.size w w'
set_option maxRecDepth 100000 in
set_option maxHeartbeats 4000000 in
theorem rtext_walk (a0 a1 a2 a3 a4 : Int) (s0 s1 s2 s3 s4 : ByteArray) (w : World) (v0 : 0 ≤ a4) (v1 : a4 < 4294967296) (z0 : s0.size ≤ 30) (z1 : s1.size ≤ 30) (z2 : s2.size ≤ 30) (z3 : s3.size ≤ 30) (z4 : s4.size ≤ 30)
    (K0 : NumSays a0 s0) (K1 : NumSays a1 s1) (K2 : NumSays a2 s2) (K3 : NumSays a3 s3) (K4 : NumSays a4 s4) :
    Calls Tryd.prog 17 #[.agg #[.int .i64 a0, .int .i64 a1, .int .i64 a2, .int .i64 a3, .int .u32 a4]] w fun e w' => e = .returned (.string ((((((((s0 ++ ⟨#[32]⟩) ++ s1) ++ ⟨#[32]⟩) ++ s2) ++ ⟨#[32]⟩) ++ s3) ++ ⟨#[32]⟩) ++ s4)) ∧ Below w.heap.size w w' := by
  go_enter Tryd.func17, Tryd.ntmps17
  go_wp2
  refine Reg.wp_open (fun w' => Below w.heap.size w w' ∧ w'.heap[w.heap.size]? = some (.cells #[.int .i64 a0, .int .i64 a1, .int .i64 a2, .int .i64 a3, .int .u32 a4] 36 (0, 0))) ⟨(Below.refl _ _).alloc (Nat.le_refl _) _, blk_new _ _⟩ (fun Bq hS => ?_)
  obtain ⟨hE, hB⟩ := hS
  have HE := Lib.hid hE
  have k0 := cell_regrown ((blk_cell hB 0).trans rfl : Bq.cell? ⟨w.heap.size, 0, none⟩ = some (.int .i64 a0))
  have k1 := cell_regrown ((blk_cell hB 1).trans rfl : Bq.cell? ⟨w.heap.size, 1, none⟩ = some (.int .i64 a1))
  have k2 := cell_regrown ((blk_cell hB 2).trans rfl : Bq.cell? ⟨w.heap.size, 2, none⟩ = some (.int .i64 a2))
  have k3 := cell_regrown ((blk_cell hB 3).trans rfl : Bq.cell? ⟨w.heap.size, 3, none⟩ = some (.int .i64 a3))
  have k4 := cell_regrown ((blk_cell hB 4).trans rfl : Bq.cell? ⟨w.heap.size, 4, none⟩ = some (.int .u32 a4))
  have x0 := Reg.call_cl K0 Bq
  have x1 := Reg.call_cl K1 Bq
  have x2 := Reg.call_cl K2 Bq
  have x3 := Reg.call_cl K3 Bq
  have x4 := Reg.call_cl K4 Bq
  have hw : IntKind.i64.wrap a4 = a4 := by rw [IntKind.wrap_i64]; omega
  have e32 : (⟨#[32]⟩ : ByteArray).size = 1 := rfl
  have y0 : (s0).size + (⟨#[32]⟩ : ByteArray).size ≤ 9223372036854775807 := by simp only [e32]; omega
  have y0' : (s0).size + 1 ≤ 9223372036854775807 := y0
  have y1 : ((s0) ++ (⟨#[32]⟩ : ByteArray)).size + s1.size ≤ 9223372036854775807 := by simp only [ByteArray.size_append, e32]; omega
  have y2 : (((s0) ++ (⟨#[32]⟩ : ByteArray)) ++ s1).size + (⟨#[32]⟩ : ByteArray).size ≤ 9223372036854775807 := by simp only [ByteArray.size_append, e32]; omega
  have y2' : (((s0) ++ (⟨#[32]⟩ : ByteArray)) ++ s1).size + 1 ≤ 9223372036854775807 := y2
  have y3 : ((((s0) ++ (⟨#[32]⟩ : ByteArray)) ++ s1) ++ (⟨#[32]⟩ : ByteArray)).size + s2.size ≤ 9223372036854775807 := by simp only [ByteArray.size_append, e32]; omega
  have y4 : (((((s0) ++ (⟨#[32]⟩ : ByteArray)) ++ s1) ++ (⟨#[32]⟩ : ByteArray)) ++ s2).size + (⟨#[32]⟩ : ByteArray).size ≤ 9223372036854775807 := by simp only [ByteArray.size_append, e32]; omega
  have y4' : (((((s0) ++ (⟨#[32]⟩ : ByteArray)) ++ s1) ++ (⟨#[32]⟩ : ByteArray)) ++ s2).size + 1 ≤ 9223372036854775807 := y4
  have y5 : ((((((s0) ++ (⟨#[32]⟩ : ByteArray)) ++ s1) ++ (⟨#[32]⟩ : ByteArray)) ++ s2) ++ (⟨#[32]⟩ : ByteArray)).size + s3.size ≤ 9223372036854775807 := by simp only [ByteArray.size_append, e32]; omega
  have y6 : (((((((s0) ++ (⟨#[32]⟩ : ByteArray)) ++ s1) ++ (⟨#[32]⟩ : ByteArray)) ++ s2) ++ (⟨#[32]⟩ : ByteArray)) ++ s3).size + (⟨#[32]⟩ : ByteArray).size ≤ 9223372036854775807 := by simp only [ByteArray.size_append, e32]; omega
  have y6' : (((((((s0) ++ (⟨#[32]⟩ : ByteArray)) ++ s1) ++ (⟨#[32]⟩ : ByteArray)) ++ s2) ++ (⟨#[32]⟩ : ByteArray)) ++ s3).size + 1 ≤ 9223372036854775807 := y6
  have y7 : ((((((((s0) ++ (⟨#[32]⟩ : ByteArray)) ++ s1) ++ (⟨#[32]⟩ : ByteArray)) ++ s2) ++ (⟨#[32]⟩ : ByteArray)) ++ s3) ++ (⟨#[32]⟩ : ByteArray)).size + s4.size ≤ 9223372036854775807 := by simp only [ByteArray.size_append, e32]; omega
  clear hE hB K0 K1 K2 K3 K4 z0 z1 z2 z3 z4 e32
  refine Reg.wp_region_reads (B := Bq) (by kernel_rfl) (by kernel_rfl) (Below.refl _ Bq) ?_
  (repeat (first | go_big_quiet_step (first | exact x0 _ _ _ rfl | exact x1 _ _ _ rfl | exact x2 _ _ _ rfl | exact x3 _ _ _ rfl | exact x4 _ _ _ rfl) | quiet_step (first | exact x0 _ _ _ rfl | exact x1 _ _ _ rfl | exact x2 _ _ _ rfl | exact x3 _ _ _ rfl | exact x4 _ _ _ rfl)))
  refine wpQuiet_nil ?_
  intro _ hw'
  obtain ⟨⟨dq, osq⟩, hw''⟩ := hw'
  subst hw''
  clear k0 k1 k2 k3 k4 x0 x1 x2 x3 x4 hw y0 y1 y2 y3 y4 y5 y6 y7 y0' y2' y4' y6'
  go_wp2
  go_ret
  exact ⟨rfl, HE.out.trans ((below_regrown Bq _ _).mono HE.out.size)⟩
end Go.Proofs.YtefijnbhdjpfpaaDoor.Ir
