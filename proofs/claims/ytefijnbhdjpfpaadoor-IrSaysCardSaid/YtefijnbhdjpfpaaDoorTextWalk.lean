/- What ir's Text answers, over the contracts of what it calls. -/
import Derived.Test.YtefijnbhdjpfpaaDoorI0
import Derived.Test.YtefijnbhdjpfpaaDoorReg
import Derived.Lib.Hide
namespace Go.Proofs.YtefijnbhdjpfpaaDoor.Ir
open Go Go.RowKit Go.Proofs.YtefijnbhdjpfpaaDoorW.PrintWords Go.Proofs.YtefijnbhdjpfpaaDoorW.PrintLast Go.Proofs.YtefijnbhdjpfpaaDoorW.PrintMore
set_option linter.unusedVariables false
set_option linter.unusedSimpArgs false
attribute [local go_sem] Reg.qeOp Reg.qeUpon
/-- Join's contract at five strings in a block of the call's own. -/
def Joins (s0 s1 s2 s3 s4 s : ByteArray) : Prop := ∀ (bk c : Nat) (w : World), 5 ≤ c → w.heap[bk]? = some (.cells #[.string s0, .string s1, .string s2, .string s3, .string s4] 9 (0, 0)) →
  Calls Tryd.prog 27 #[.slice (some ⟨bk, 0, none⟩) 5 c, .string ⟨#[32]⟩] w fun e w' => e = .returned (.string s) ∧ Below w.heap.size w w'
def Says (f : FuncId) (args : Array Value) (s : ByteArray) (B : World) : Prop := ∀ w, Below B.heap.size B w → Calls Tryd.prog f args w fun e w' => e = .returned (.string s) ∧ Below w.heap.size w w'
set_option maxRecDepth 100000 in
set_option maxHeartbeats 4000000 in
theorem text_walk (a0 a1 a2 a3 a4 : Int) (s0 s1 s2 s3 s4 s : ByteArray) (w : World) (v0 : 0 ≤ a4) (v1 : a4 < 4294967296)
    (K0 : Says 25 #[.int .i64 a0] s0 w) (K1 : Says 25 #[.int .i64 a1] s1 w) (K2 : Says 25 #[.int .i64 a2] s2 w) (K3 : Says 25 #[.int .i64 a3] s3 w) (K4 : Says 26 #[.int .u64 a4, .int .i64 10] s4 w) (KJ : Joins s0 s1 s2 s3 s4 s) :
    Calls Tryd.prog 16 #[.agg #[.int .i64 a0, .int .i64 a1, .int .i64 a2, .int .i64 a3, .int .u32 a4]] w fun e w' => e = .returned (.string s) ∧ Below w.heap.size w w' := by
  go_enter Tryd.func16, Tryd.ntmps16
  go_wp2
  refine Reg.wp_open (fun w' => Below w.heap.size w w' ∧ w'.heap[w.heap.size]? = some (.cells #[.int .i64 a0, .int .i64 a1, .int .i64 a2, .int .i64 a3, .int .u32 a4] 25 (0, 0))) ⟨(Below.refl _ _).alloc (Nat.le_refl _) _, blk_new _ _⟩ (fun Bq hS => ?_)
  obtain ⟨hE, hB⟩ := hS
  have HE := Lib.hid hE
  have k0 := cell_regrown ((blk_cell hB 0).trans rfl : Bq.cell? ⟨w.heap.size, 0, none⟩ = some (.int .i64 a0))
  have k1 := cell_regrown ((blk_cell hB 1).trans rfl : Bq.cell? ⟨w.heap.size, 1, none⟩ = some (.int .i64 a1))
  have k2 := cell_regrown ((blk_cell hB 2).trans rfl : Bq.cell? ⟨w.heap.size, 2, none⟩ = some (.int .i64 a2))
  have k3 := cell_regrown ((blk_cell hB 3).trans rfl : Bq.cell? ⟨w.heap.size, 3, none⟩ = some (.int .i64 a3))
  have k4 := cell_regrown ((blk_cell hB 4).trans rfl : Bq.cell? ⟨w.heap.size, 4, none⟩ = some (.int .u32 a4))
  have M : ∀ wx, Below Bq.heap.size Bq wx → Below w.heap.size w wx := fun wx h => hE.trans (h.mono hE.size)
  have x0 := Reg.call_in (fun wx h => K0 wx (M wx h))
  have x1 := Reg.call_in (fun wx h => K1 wx (M wx h))
  have x2 := Reg.call_in (fun wx h => K2 wx (M wx h))
  have x3 := Reg.call_in (fun wx h => K3 wx (M wx h))
  have x4 := Reg.call_in (fun wx h => K4 wx (M wx h))
  have hw : IntKind.u64.wrap a4 = a4 := by rw [IntKind.wrap_u64]; omega
  clear hE hB M K0 K1 K2 K3 K4
  refine Reg.wp_region_tail (B := Bq) 16 (by kernel_rfl) (by kernel_rfl) (Below.refl _ Bq) ?_
  simp only [List.take_succ_cons, List.take_zero, List.drop_succ_cons, List.drop_zero]
  (repeat (first | (refine Reg.wpE_big (by rfl) (fun K hK => ?_) (by rfl); go_big_quiet_op; go_big_quiet_on) | (refine Reg.wpE_step (fun K hK => ?_); go_simp; first | (refine hK _ ?_; clear hK K) | (apply Exists.intro; refine ⟨fun _ => ?_, hK _ ?_⟩; (first | exact x0 _ _ _ rfl | exact x1 _ _ _ rfl | exact x2 _ _ _ rfl | exact x3 _ _ _ rfl | exact x4 _ _ _ rfl); clear hK K))))
  refine Reg.wpE_nil ?_
  intro w1 hb1
  clear k0 k1 k2 k3 k4 x0 x1 x2 x3 x4 hw
  go_wp2_with (go_at_call 27; refine (KJ _ _ _ (Nat.le_refl _) (blk_new _ _)).mono ?_; rintro e w2 ⟨rfl, hb2⟩)
  go_ret
  have hE := HE.out
  refine ⟨rfl, ?_⟩
  have b1 := hE.trans (hb1.mono hE.size)
  have b2 : Below w.heap.size w (w1.alloc (.cells #[.string s0, .string s1, .string s2, .string s3, .string s4] 9)) := b1.alloc b1.size _
  exact b2.trans (hb2.mono b2.size)
end Go.Proofs.YtefijnbhdjpfpaaDoor.Ir
