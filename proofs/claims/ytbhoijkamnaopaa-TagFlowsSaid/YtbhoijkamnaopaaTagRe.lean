/- Several of this session's texts as one. -/
import Derived.Test.YtbhoijkamnaopaaTagC
import Derived.LoopTactic
import Derived.Test.YtbhoijkamnaopaaTagRb
import Derived.StillTailTactics
import Derived.BigRegion
import Derived.LoopN
import Derived.Deep.RegionHeld3
import Derived.Lib.Hide
namespace Go.Proofs.Ytbhoijkamnaopaa.Tag
open Go Go.RowKit Go.Proofs.YtbhoijkamnaopaaW.PrintWords Go.Proofs.YtbhoijkamnaopaaW.PrintLast Go.Proofs.YtbhoijkamnaopaaW.PrintMore Go.Proofs.Ytbhoijkamnaopaa Go.Sort
set_option linter.unusedVariables false
set_option linter.unusedSimpArgs false
attribute [local go_sem] Reg.qeOp Reg.qeUpon
set_option maxRecDepth 100000 in
set_option maxHeartbeats 40000000 in
theorem flow14e2_ {a b n a0 a1 a2 a3 b1 b2 b3 : Int} (W : World) (hn : 0 ≤ n) (hn' : n < 32) (hb : bits .and .u32 b 31 = n) : Calls Try.prog 14 #[.int .i64 2, .int .u32 a, .int .u32 b, .agg #[.int .u8 a0, .int .u8 a1, .int .u8 a2, .int .u8 a3], .agg #[.int .u8 0, .int .u8 b1, .int .u8 b2, .int .u8 b3]] W (RetE (.tuple #[tagOf (shAcc 2 n (a0, a1, a2, a3) 32), .bool true]) W) := by
  go_enter Try.func14, Try.ntmps14
  go_wp2_with fail
  clear hb
  refine Reg.wp_open (fun w' => RW W (a0, a1, a2, a3) (0, b1, b2, b3) (0, 0, 0, 0) w') ⟨by (repeat' (first | assumption | exact Ext.refl _ | refine Ext.drewN ?_ | refine Ext.drew ?_ | refine Ext.alloc ?_)), (by have h := blk_alloc (blk_alloc (blk_alloc (blk_new W (.cells #[.int .u8 a0, .int .u8 a1, .int .u8 a2, .int .u8 a3] 24)) (.cells #[.int .u8 0, .int .u8 b1, .int .u8 b2, .int .u8 b3] 24)) (.cells #[.int .u8 0, .int .u8 0, .int .u8 0, .int .u8 0] 24)) (.cells #[.int .u8 0, .int .u8 0, .int .u8 0, .int .u8 0] 24); simpa using h), (by have h := blk_alloc (blk_alloc (blk_new (W.alloc (.cells #[.int .u8 a0, .int .u8 a1, .int .u8 a2, .int .u8 a3] 24)) (.cells #[.int .u8 0, .int .u8 b1, .int .u8 b2, .int .u8 b3] 24)) (.cells #[.int .u8 0, .int .u8 0, .int .u8 0, .int .u8 0] 24)) (.cells #[.int .u8 0, .int .u8 0, .int .u8 0, .int .u8 0] 24); simpa using h), (by have h := blk_alloc (blk_new ((W.alloc (.cells #[.int .u8 a0, .int .u8 a1, .int .u8 a2, .int .u8 a3] 24)).alloc (.cells #[.int .u8 0, .int .u8 b1, .int .u8 b2, .int .u8 b3] 24)) (.cells #[.int .u8 0, .int .u8 0, .int .u8 0, .int .u8 0] 24)) (.cells #[.int .u8 0, .int .u8 0, .int .u8 0, .int .u8 0] 24); simpa using h), (by have h := blk_new (((W.alloc (.cells #[.int .u8 a0, .int .u8 a1, .int .u8 a2, .int .u8 a3] 24)).alloc (.cells #[.int .u8 0, .int .u8 b1, .int .u8 b2, .int .u8 b3] 24)).alloc (.cells #[.int .u8 0, .int .u8 0, .int .u8 0, .int .u8 0] 24)) (.cells #[.int .u8 0, .int .u8 0, .int .u8 0, .int .u8 0] 24); simpa using h)⟩ (fun Bq hS => ?_)
  have HS := Lib.hid hS
  clear hS
  go_loopw [17] (fun c wr => ∃ k : Nat, k ≤ 32 ∧ c = .int .i64 k ∧ ∃ (x0 x1 x2 x3 : Int), Hid (RW W (a0, a1, a2, a3) (0, b1, b2, b3) (x0, x1, x2, x3) wr) ∧ Hid (shAcc 2 n (a0, a1, a2, a3) k = (x0, x1, x2, x3))) (fun c _ => 32 - (intOf c).toNat)
  case atStart => exact ⟨0, by omega, rfl, 0, 0, 0, 0, HS, Lib.hid rfl⟩
  case round =>
    obtain ⟨k, hk, rfl, x0, x1, x2, x3, HR, HX⟩ := hrel
    clear HS
    by_cases hlt : k < 32
    · by_cases hs : n ≤ (k : Int)
      · have hq : ((k : Int) / 8 = 0 ∧ k / 8 = 0) ∨ ((k : Int) / 8 = 1 ∧ k / 8 = 1) ∨ ((k : Int) / 8 = 2 ∧ k / 8 = 2) ∨ ((k : Int) / 8 = 3 ∧ k / 8 = 3) := by omega
        have hp : (((k : Int) - n) / 8 = 0) ∨ (((k : Int) - n) / 8 = 1) ∨ (((k : Int) - n) / 8 = 2) ∨ (((k : Int) - n) / 8 = 3) := by omega
        have sr : srcI 2 (k : Int) n = (k : Int) - n := by unfold srcI; rw [if_pos rfl]
        have SR := Lib.hid sr
        clear sr
        rcases hq with ⟨hq, hq'⟩ | ⟨hq, hq'⟩ | ⟨hq, hq'⟩ | ⟨hq, hq'⟩ <;> rcases hp with hp | hp | hp | hp
        all_goals try (exfalso; omega)
        all_goals
          have HN := Lib.hid (sh_in _ _ _ SR.out (by omega) (by omega) hq' (by rw [hp]) HX.out)
          clear hq'
          have tq : Int.tdiv (k : Int) 8 = (k : Int) / 8 := Int.tdiv_eq_ediv_of_nonneg (by omega)
          rw [hq] at tq
          have tp : Int.tdiv ((k : Int) - n) 8 = ((k : Int) - n) / 8 := Int.tdiv_eq_ediv_of_nonneg (by omega)
          rw [hp] at tp
          have wz0 : IntKind.i64.wrap (0 : Int) = 0 := by decide
          have wz1 : IntKind.i64.wrap (1 : Int) = 1 := by decide
          have wz2 : IntKind.i64.wrap (2 : Int) = 2 := by decide
          have wz3 : IntKind.i64.wrap (3 : Int) = 3 := by decide
          obtain ⟨c00, c01, c02, c03⟩ := HR.out.c0
          obtain ⟨c10, c11, c12, c13⟩ := HR.out.c1
          obtain ⟨c30, c31, c32, c33⟩ := HR.out.c3
          go_wp2
          have k00 := cell_regrown c00
          have k01 := cell_regrown c01
          have k02 := cell_regrown c02
          have k03 := cell_regrown c03
          have k30 := cell_regrown c30
          have k31 := cell_regrown c31
          have k32 := cell_regrown c32
          have k33 := cell_regrown c33
          refine Reg.wp_region_tail (B := wr) 12 (by kernel_rfl) (by kernel_rfl) (Below.refl _ wr) ?_
          simp only [List.take_succ_cons, List.take_zero, List.drop_succ_cons, List.drop_zero]
          (repeat (first | (refine Reg.wpE_big (by rfl) (fun K hK => ?_) (by rfl); go_big_quiet_op; go_big_quiet_on) | (refine Reg.wpE_step (fun K hK => ?_); go_simp; first | (refine hK _ ?_; clear hK K) | (apply Exists.intro; refine ⟨fun _ => ?_, hK _ ?_⟩; (fail); clear hK K))))
          refine Reg.wpE_nil ?_
          intro w1 hb1
          have HR1 := Lib.hid (HR.out.grow hb1)
          obtain ⟨d0, d1, d2, d3⟩ := HR1.out.c3
          have f0 : w1.frozen? ⟨W.heap.size + 1 + 1 + 1, 0, none⟩ = false := blk_frozen HR1.out.h3 0
          have f1 : w1.frozen? ⟨W.heap.size + 1 + 1 + 1, 1, none⟩ = false := blk_frozen HR1.out.h3 1
          have f2 : w1.frozen? ⟨W.heap.size + 1 + 1 + 1, 2, none⟩ = false := blk_frozen HR1.out.h3 2
          have f3 : w1.frozen? ⟨W.heap.size + 1 + 1 + 1, 3, none⟩ = false := blk_frozen HR1.out.h3 3
          go_wp2
          go_roundw
          case rel => exact ⟨k + 1, by omega, by go_num, _, _, _, _, Lib.hid (by first | exact HR1.out.set0 _ | exact HR1.out.set1 _ | exact HR1.out.set2 _ | exact HR1.out.set3 _), Lib.hid HN.out⟩
          case measure => simp [intOf]; omega
      · have sr : srcI 2 (k : Int) n = (k : Int) - n := by unfold srcI; rw [if_pos rfl]
        have HN := Lib.hid (sh_out _ sr (by omega) HX.out)
        clear sr
        go_wp2
        go_roundw
        case rel => exact ⟨k + 1, by omega, by go_num, _, _, _, _, HR, Lib.hid HN.out⟩
        case measure => simp [intOf]; omega
    · obtain rfl : k = 32 := by omega
      clear hlt hk
      refine Reg.wp_open (fun w' => RW W (a0, a1, a2, a3) (0, b1, b2, b3) (x0, x1, x2, x3) w') HR.out (fun Bq hS => ?_)
      have HR2 := Lib.hid hS
      clear hS HR
      have c00 : Bq.cell? ⟨W.heap.size, 0, none⟩ = some (.int .u8 a0) := (blk_cell HR2.out.h0 0).trans rfl
      have c01 : Bq.cell? ⟨W.heap.size, 1, none⟩ = some (.int .u8 a1) := (blk_cell HR2.out.h0 1).trans rfl
      have c02 : Bq.cell? ⟨W.heap.size, 2, none⟩ = some (.int .u8 a2) := (blk_cell HR2.out.h0 2).trans rfl
      have c03 : Bq.cell? ⟨W.heap.size, 3, none⟩ = some (.int .u8 a3) := (blk_cell HR2.out.h0 3).trans rfl
      have c10 : Bq.cell? ⟨W.heap.size + 1, 0, none⟩ = some (.int .u8 0) := (blk_cell HR2.out.h1 0).trans rfl
      have c11 : Bq.cell? ⟨W.heap.size + 1, 1, none⟩ = some (.int .u8 b1) := (blk_cell HR2.out.h1 1).trans rfl
      have c12 : Bq.cell? ⟨W.heap.size + 1, 2, none⟩ = some (.int .u8 b2) := (blk_cell HR2.out.h1 2).trans rfl
      have c13 : Bq.cell? ⟨W.heap.size + 1, 3, none⟩ = some (.int .u8 b3) := (blk_cell HR2.out.h1 3).trans rfl
      have c20 : Bq.cell? ⟨W.heap.size + 1 + 1, 0, none⟩ = some (.int .u8 0) := (blk_cell HR2.out.h2 0).trans rfl
      have c21 : Bq.cell? ⟨W.heap.size + 1 + 1, 1, none⟩ = some (.int .u8 0) := (blk_cell HR2.out.h2 1).trans rfl
      have c22 : Bq.cell? ⟨W.heap.size + 1 + 1, 2, none⟩ = some (.int .u8 0) := (blk_cell HR2.out.h2 2).trans rfl
      have c23 : Bq.cell? ⟨W.heap.size + 1 + 1, 3, none⟩ = some (.int .u8 0) := (blk_cell HR2.out.h2 3).trans rfl
      have c30 : Bq.cell? ⟨W.heap.size + 1 + 1 + 1, 0, none⟩ = some (.int .u8 x0) := (blk_cell HR2.out.h3 0).trans rfl
      have c31 : Bq.cell? ⟨W.heap.size + 1 + 1 + 1, 1, none⟩ = some (.int .u8 x1) := (blk_cell HR2.out.h3 1).trans rfl
      have c32 : Bq.cell? ⟨W.heap.size + 1 + 1 + 1, 2, none⟩ = some (.int .u8 x2) := (blk_cell HR2.out.h3 2).trans rfl
      have c33 : Bq.cell? ⟨W.heap.size + 1 + 1 + 1, 3, none⟩ = some (.int .u8 x3) := (blk_cell HR2.out.h3 3).trans rfl
      have z0 : Bq.frozen? ⟨W.heap.size + 1 + 1, 0, none⟩ = false := blk_frozen HR2.out.h2 0
      have z1 : Bq.frozen? ⟨W.heap.size + 1 + 1, 1, none⟩ = false := blk_frozen HR2.out.h2 1
      have z2 : Bq.frozen? ⟨W.heap.size + 1 + 1, 2, none⟩ = false := blk_frozen HR2.out.h2 2
      have z3 : Bq.frozen? ⟨W.heap.size + 1 + 1, 3, none⟩ = false := blk_frozen HR2.out.h2 3
      go_wp2
      have hE := HR2.out.e
      have G2 := HR2.out.h2
      have le2 : W.heap.size ≤ W.heap.size + 1 + 1 := by omega
      refine Reg.post_open (fun w' => Ext W w' ∧ w'.heap[W.heap.size + 1 + 1]? = some (.cells #[.int .u8 x0, .int .u8 x1, .int .u8 x2, .int .u8 x3] 24 (0, 0))) ⟨(Below.setCell (Below.setCell (Below.setCell (Below.setCell hE le2 _) le2 _) le2 _) le2 _), (blk_set (blk_set (blk_set (blk_set G2 0 _) 1 _) 2 _) 3 _)⟩ (fun Bz hS => ?_)
      obtain ⟨hEz, Gz⟩ := hS
      have r0 : Bz.cell? ⟨W.heap.size + 1 + 1, 0, none⟩ = some (.int .u8 x0) := (blk_cell Gz 0).trans rfl
      have r1 : Bz.cell? ⟨W.heap.size + 1 + 1, 1, none⟩ = some (.int .u8 x1) := (blk_cell Gz 1).trans rfl
      have r2 : Bz.cell? ⟨W.heap.size + 1 + 1, 2, none⟩ = some (.int .u8 x2) := (blk_cell Gz 2).trans rfl
      have r3 : Bz.cell? ⟨W.heap.size + 1 + 1, 3, none⟩ = some (.int .u8 x3) := (blk_cell Gz 3).trans rfl
      refine bodyPost_ret (v := .tuple #[.agg #[.int .u8 x0, .int .u8 x1, .int .u8 x2, .int .u8 x3], .bool true]) (by simp [results, Try.results14, go_sem, r0, r1, r2, r3]) rfl ?_
      exact ⟨by have hv : shAcc 2 n (a0, a1, a2, a3) 32 = (x0, x1, x2, x3) := HX.out; rw [hv]; rfl, hEz⟩
set_option maxRecDepth 100000 in
set_option maxHeartbeats 40000000 in
theorem flow14e6_ {a b n a0 a1 a2 a3 b1 b2 b3 : Int} (W : World) (hn : 0 ≤ n) (hn' : n < 32) (hb : bits .and .u32 b 31 = n) : Calls Try.prog 14 #[.int .i64 6, .int .u32 a, .int .u32 b, .agg #[.int .u8 a0, .int .u8 a1, .int .u8 a2, .int .u8 a3], .agg #[.int .u8 0, .int .u8 b1, .int .u8 b2, .int .u8 b3]] W (RetE (.tuple #[tagOf (shAcc 6 n (a0, a1, a2, a3) 32), .bool true]) W) := by
  go_enter Try.func14, Try.ntmps14
  go_wp2_with fail
  clear hb
  refine Reg.wp_open (fun w' => RW W (a0, a1, a2, a3) (0, b1, b2, b3) (0, 0, 0, 0) w') ⟨by (repeat' (first | assumption | exact Ext.refl _ | refine Ext.drewN ?_ | refine Ext.drew ?_ | refine Ext.alloc ?_)), (by have h := blk_alloc (blk_alloc (blk_alloc (blk_new W (.cells #[.int .u8 a0, .int .u8 a1, .int .u8 a2, .int .u8 a3] 24)) (.cells #[.int .u8 0, .int .u8 b1, .int .u8 b2, .int .u8 b3] 24)) (.cells #[.int .u8 0, .int .u8 0, .int .u8 0, .int .u8 0] 24)) (.cells #[.int .u8 0, .int .u8 0, .int .u8 0, .int .u8 0] 24); simpa using h), (by have h := blk_alloc (blk_alloc (blk_new (W.alloc (.cells #[.int .u8 a0, .int .u8 a1, .int .u8 a2, .int .u8 a3] 24)) (.cells #[.int .u8 0, .int .u8 b1, .int .u8 b2, .int .u8 b3] 24)) (.cells #[.int .u8 0, .int .u8 0, .int .u8 0, .int .u8 0] 24)) (.cells #[.int .u8 0, .int .u8 0, .int .u8 0, .int .u8 0] 24); simpa using h), (by have h := blk_alloc (blk_new ((W.alloc (.cells #[.int .u8 a0, .int .u8 a1, .int .u8 a2, .int .u8 a3] 24)).alloc (.cells #[.int .u8 0, .int .u8 b1, .int .u8 b2, .int .u8 b3] 24)) (.cells #[.int .u8 0, .int .u8 0, .int .u8 0, .int .u8 0] 24)) (.cells #[.int .u8 0, .int .u8 0, .int .u8 0, .int .u8 0] 24); simpa using h), (by have h := blk_new (((W.alloc (.cells #[.int .u8 a0, .int .u8 a1, .int .u8 a2, .int .u8 a3] 24)).alloc (.cells #[.int .u8 0, .int .u8 b1, .int .u8 b2, .int .u8 b3] 24)).alloc (.cells #[.int .u8 0, .int .u8 0, .int .u8 0, .int .u8 0] 24)) (.cells #[.int .u8 0, .int .u8 0, .int .u8 0, .int .u8 0] 24); simpa using h)⟩ (fun Bq hS => ?_)
  have HS := Lib.hid hS
  clear hS
  go_loopw [17] (fun c wr => ∃ k : Nat, k ≤ 32 ∧ c = .int .i64 k ∧ ∃ (x0 x1 x2 x3 : Int), Hid (RW W (a0, a1, a2, a3) (0, b1, b2, b3) (x0, x1, x2, x3) wr) ∧ Hid (shAcc 6 n (a0, a1, a2, a3) k = (x0, x1, x2, x3))) (fun c _ => 32 - (intOf c).toNat)
  case atStart => exact ⟨0, by omega, rfl, 0, 0, 0, 0, HS, Lib.hid rfl⟩
  case round =>
    obtain ⟨k, hk, rfl, x0, x1, x2, x3, HR, HX⟩ := hrel
    clear HS
    by_cases hlt : k < 32
    · by_cases hs : (k : Int) + n < 32
      · have hq : ((k : Int) / 8 = 0 ∧ k / 8 = 0) ∨ ((k : Int) / 8 = 1 ∧ k / 8 = 1) ∨ ((k : Int) / 8 = 2 ∧ k / 8 = 2) ∨ ((k : Int) / 8 = 3 ∧ k / 8 = 3) := by omega
        have hp : (((k : Int) + n) / 8 = 0) ∨ (((k : Int) + n) / 8 = 1) ∨ (((k : Int) + n) / 8 = 2) ∨ (((k : Int) + n) / 8 = 3) := by omega
        have sr : srcI 6 (k : Int) n = (k : Int) + n := by unfold srcI; rw [if_neg (by decide), if_neg (by decide)]
        have SR := Lib.hid sr
        clear sr
        rcases hq with ⟨hq, hq'⟩ | ⟨hq, hq'⟩ | ⟨hq, hq'⟩ | ⟨hq, hq'⟩ <;> rcases hp with hp | hp | hp | hp
        all_goals try (exfalso; omega)
        all_goals
          have HN := Lib.hid (sh_in _ _ _ SR.out (by omega) (by omega) hq' (by rw [hp]) HX.out)
          clear hq'
          have tq : Int.tdiv (k : Int) 8 = (k : Int) / 8 := Int.tdiv_eq_ediv_of_nonneg (by omega)
          rw [hq] at tq
          have tp : Int.tdiv ((k : Int) + n) 8 = ((k : Int) + n) / 8 := Int.tdiv_eq_ediv_of_nonneg (by omega)
          rw [hp] at tp
          have wz0 : IntKind.i64.wrap (0 : Int) = 0 := by decide
          have wz1 : IntKind.i64.wrap (1 : Int) = 1 := by decide
          have wz2 : IntKind.i64.wrap (2 : Int) = 2 := by decide
          have wz3 : IntKind.i64.wrap (3 : Int) = 3 := by decide
          obtain ⟨c00, c01, c02, c03⟩ := HR.out.c0
          obtain ⟨c10, c11, c12, c13⟩ := HR.out.c1
          obtain ⟨c30, c31, c32, c33⟩ := HR.out.c3
          go_wp2
          have k00 := cell_regrown c00
          have k01 := cell_regrown c01
          have k02 := cell_regrown c02
          have k03 := cell_regrown c03
          have k30 := cell_regrown c30
          have k31 := cell_regrown c31
          have k32 := cell_regrown c32
          have k33 := cell_regrown c33
          refine Reg.wp_region_tail (B := wr) 12 (by kernel_rfl) (by kernel_rfl) (Below.refl _ wr) ?_
          simp only [List.take_succ_cons, List.take_zero, List.drop_succ_cons, List.drop_zero]
          (repeat (first | (refine Reg.wpE_big (by rfl) (fun K hK => ?_) (by rfl); go_big_quiet_op; go_big_quiet_on) | (refine Reg.wpE_step (fun K hK => ?_); go_simp; first | (refine hK _ ?_; clear hK K) | (apply Exists.intro; refine ⟨fun _ => ?_, hK _ ?_⟩; (fail); clear hK K))))
          refine Reg.wpE_nil ?_
          intro w1 hb1
          have HR1 := Lib.hid (HR.out.grow hb1)
          obtain ⟨d0, d1, d2, d3⟩ := HR1.out.c3
          have f0 : w1.frozen? ⟨W.heap.size + 1 + 1 + 1, 0, none⟩ = false := blk_frozen HR1.out.h3 0
          have f1 : w1.frozen? ⟨W.heap.size + 1 + 1 + 1, 1, none⟩ = false := blk_frozen HR1.out.h3 1
          have f2 : w1.frozen? ⟨W.heap.size + 1 + 1 + 1, 2, none⟩ = false := blk_frozen HR1.out.h3 2
          have f3 : w1.frozen? ⟨W.heap.size + 1 + 1 + 1, 3, none⟩ = false := blk_frozen HR1.out.h3 3
          go_wp2
          go_roundw
          case rel => exact ⟨k + 1, by omega, by go_num, _, _, _, _, Lib.hid (by first | exact HR1.out.set0 _ | exact HR1.out.set1 _ | exact HR1.out.set2 _ | exact HR1.out.set3 _), Lib.hid HN.out⟩
          case measure => simp [intOf]; omega
      · have sr : srcI 6 (k : Int) n = (k : Int) + n := by unfold srcI; rw [if_neg (by decide), if_neg (by decide)]
        have HN := Lib.hid (sh_out _ sr (by omega) HX.out)
        clear sr
        go_wp2
        go_roundw
        case rel => exact ⟨k + 1, by omega, by go_num, _, _, _, _, HR, Lib.hid HN.out⟩
        case measure => simp [intOf]; omega
    · obtain rfl : k = 32 := by omega
      clear hlt hk
      refine Reg.wp_open (fun w' => RW W (a0, a1, a2, a3) (0, b1, b2, b3) (x0, x1, x2, x3) w') HR.out (fun Bq hS => ?_)
      have HR2 := Lib.hid hS
      clear hS HR
      have c00 : Bq.cell? ⟨W.heap.size, 0, none⟩ = some (.int .u8 a0) := (blk_cell HR2.out.h0 0).trans rfl
      have c01 : Bq.cell? ⟨W.heap.size, 1, none⟩ = some (.int .u8 a1) := (blk_cell HR2.out.h0 1).trans rfl
      have c02 : Bq.cell? ⟨W.heap.size, 2, none⟩ = some (.int .u8 a2) := (blk_cell HR2.out.h0 2).trans rfl
      have c03 : Bq.cell? ⟨W.heap.size, 3, none⟩ = some (.int .u8 a3) := (blk_cell HR2.out.h0 3).trans rfl
      have c10 : Bq.cell? ⟨W.heap.size + 1, 0, none⟩ = some (.int .u8 0) := (blk_cell HR2.out.h1 0).trans rfl
      have c11 : Bq.cell? ⟨W.heap.size + 1, 1, none⟩ = some (.int .u8 b1) := (blk_cell HR2.out.h1 1).trans rfl
      have c12 : Bq.cell? ⟨W.heap.size + 1, 2, none⟩ = some (.int .u8 b2) := (blk_cell HR2.out.h1 2).trans rfl
      have c13 : Bq.cell? ⟨W.heap.size + 1, 3, none⟩ = some (.int .u8 b3) := (blk_cell HR2.out.h1 3).trans rfl
      have c20 : Bq.cell? ⟨W.heap.size + 1 + 1, 0, none⟩ = some (.int .u8 0) := (blk_cell HR2.out.h2 0).trans rfl
      have c21 : Bq.cell? ⟨W.heap.size + 1 + 1, 1, none⟩ = some (.int .u8 0) := (blk_cell HR2.out.h2 1).trans rfl
      have c22 : Bq.cell? ⟨W.heap.size + 1 + 1, 2, none⟩ = some (.int .u8 0) := (blk_cell HR2.out.h2 2).trans rfl
      have c23 : Bq.cell? ⟨W.heap.size + 1 + 1, 3, none⟩ = some (.int .u8 0) := (blk_cell HR2.out.h2 3).trans rfl
      have c30 : Bq.cell? ⟨W.heap.size + 1 + 1 + 1, 0, none⟩ = some (.int .u8 x0) := (blk_cell HR2.out.h3 0).trans rfl
      have c31 : Bq.cell? ⟨W.heap.size + 1 + 1 + 1, 1, none⟩ = some (.int .u8 x1) := (blk_cell HR2.out.h3 1).trans rfl
      have c32 : Bq.cell? ⟨W.heap.size + 1 + 1 + 1, 2, none⟩ = some (.int .u8 x2) := (blk_cell HR2.out.h3 2).trans rfl
      have c33 : Bq.cell? ⟨W.heap.size + 1 + 1 + 1, 3, none⟩ = some (.int .u8 x3) := (blk_cell HR2.out.h3 3).trans rfl
      have z0 : Bq.frozen? ⟨W.heap.size + 1 + 1, 0, none⟩ = false := blk_frozen HR2.out.h2 0
      have z1 : Bq.frozen? ⟨W.heap.size + 1 + 1, 1, none⟩ = false := blk_frozen HR2.out.h2 1
      have z2 : Bq.frozen? ⟨W.heap.size + 1 + 1, 2, none⟩ = false := blk_frozen HR2.out.h2 2
      have z3 : Bq.frozen? ⟨W.heap.size + 1 + 1, 3, none⟩ = false := blk_frozen HR2.out.h2 3
      go_wp2
      have hE := HR2.out.e
      have G2 := HR2.out.h2
      have le2 : W.heap.size ≤ W.heap.size + 1 + 1 := by omega
      refine Reg.post_open (fun w' => Ext W w' ∧ w'.heap[W.heap.size + 1 + 1]? = some (.cells #[.int .u8 x0, .int .u8 x1, .int .u8 x2, .int .u8 x3] 24 (0, 0))) ⟨(Below.setCell (Below.setCell (Below.setCell (Below.setCell hE le2 _) le2 _) le2 _) le2 _), (blk_set (blk_set (blk_set (blk_set G2 0 _) 1 _) 2 _) 3 _)⟩ (fun Bz hS => ?_)
      obtain ⟨hEz, Gz⟩ := hS
      have r0 : Bz.cell? ⟨W.heap.size + 1 + 1, 0, none⟩ = some (.int .u8 x0) := (blk_cell Gz 0).trans rfl
      have r1 : Bz.cell? ⟨W.heap.size + 1 + 1, 1, none⟩ = some (.int .u8 x1) := (blk_cell Gz 1).trans rfl
      have r2 : Bz.cell? ⟨W.heap.size + 1 + 1, 2, none⟩ = some (.int .u8 x2) := (blk_cell Gz 2).trans rfl
      have r3 : Bz.cell? ⟨W.heap.size + 1 + 1, 3, none⟩ = some (.int .u8 x3) := (blk_cell Gz 3).trans rfl
      refine bodyPost_ret (v := .tuple #[.agg #[.int .u8 x0, .int .u8 x1, .int .u8 x2, .int .u8 x3], .bool true]) (by simp [results, Try.results14, go_sem, r0, r1, r2, r3]) rfl ?_
      exact ⟨by have hv : shAcc 6 n (a0, a1, a2, a3) 32 = (x0, x1, x2, x3) := HX.out; rw [hv]; rfl, hEz⟩
set_option maxRecDepth 100000 in
set_option maxHeartbeats 40000000 in
theorem flow14e7_ {a b n a0 a1 a2 a3 b1 b2 b3 : Int} (W : World) (hn : 0 ≤ n) (hn' : n < 32) (hb : bits .and .u32 b 31 = n) : Calls Try.prog 14 #[.int .i64 7, .int .u32 a, .int .u32 b, .agg #[.int .u8 a0, .int .u8 a1, .int .u8 a2, .int .u8 a3], .agg #[.int .u8 0, .int .u8 b1, .int .u8 b2, .int .u8 b3]] W (RetE (.tuple #[tagOf (shAcc 7 n (a0, a1, a2, a3) 32), .bool true]) W) := by
  go_enter Try.func14, Try.ntmps14
  go_wp2_with fail
  clear hb
  refine Reg.wp_open (fun w' => RW W (a0, a1, a2, a3) (0, b1, b2, b3) (0, 0, 0, 0) w') ⟨by (repeat' (first | assumption | exact Ext.refl _ | refine Ext.drewN ?_ | refine Ext.drew ?_ | refine Ext.alloc ?_)), (by have h := blk_alloc (blk_alloc (blk_alloc (blk_new W (.cells #[.int .u8 a0, .int .u8 a1, .int .u8 a2, .int .u8 a3] 24)) (.cells #[.int .u8 0, .int .u8 b1, .int .u8 b2, .int .u8 b3] 24)) (.cells #[.int .u8 0, .int .u8 0, .int .u8 0, .int .u8 0] 24)) (.cells #[.int .u8 0, .int .u8 0, .int .u8 0, .int .u8 0] 24); simpa using h), (by have h := blk_alloc (blk_alloc (blk_new (W.alloc (.cells #[.int .u8 a0, .int .u8 a1, .int .u8 a2, .int .u8 a3] 24)) (.cells #[.int .u8 0, .int .u8 b1, .int .u8 b2, .int .u8 b3] 24)) (.cells #[.int .u8 0, .int .u8 0, .int .u8 0, .int .u8 0] 24)) (.cells #[.int .u8 0, .int .u8 0, .int .u8 0, .int .u8 0] 24); simpa using h), (by have h := blk_alloc (blk_new ((W.alloc (.cells #[.int .u8 a0, .int .u8 a1, .int .u8 a2, .int .u8 a3] 24)).alloc (.cells #[.int .u8 0, .int .u8 b1, .int .u8 b2, .int .u8 b3] 24)) (.cells #[.int .u8 0, .int .u8 0, .int .u8 0, .int .u8 0] 24)) (.cells #[.int .u8 0, .int .u8 0, .int .u8 0, .int .u8 0] 24); simpa using h), (by have h := blk_new (((W.alloc (.cells #[.int .u8 a0, .int .u8 a1, .int .u8 a2, .int .u8 a3] 24)).alloc (.cells #[.int .u8 0, .int .u8 b1, .int .u8 b2, .int .u8 b3] 24)).alloc (.cells #[.int .u8 0, .int .u8 0, .int .u8 0, .int .u8 0] 24)) (.cells #[.int .u8 0, .int .u8 0, .int .u8 0, .int .u8 0] 24); simpa using h)⟩ (fun Bq hS => ?_)
  have HS := Lib.hid hS
  clear hS
  go_loopw [17] (fun c wr => ∃ k : Nat, k ≤ 32 ∧ c = .int .i64 k ∧ ∃ (x0 x1 x2 x3 : Int), Hid (RW W (a0, a1, a2, a3) (0, b1, b2, b3) (x0, x1, x2, x3) wr) ∧ Hid (shAcc 7 n (a0, a1, a2, a3) k = (x0, x1, x2, x3))) (fun c _ => 32 - (intOf c).toNat)
  case atStart => exact ⟨0, by omega, rfl, 0, 0, 0, 0, HS, Lib.hid rfl⟩
  case round =>
    obtain ⟨k, hk, rfl, x0, x1, x2, x3, HR, HX⟩ := hrel
    clear HS
    by_cases hlt : k < 32
    · by_cases hs : (k : Int) + n ≤ 31
      · have hq : ((k : Int) / 8 = 0 ∧ k / 8 = 0) ∨ ((k : Int) / 8 = 1 ∧ k / 8 = 1) ∨ ((k : Int) / 8 = 2 ∧ k / 8 = 2) ∨ ((k : Int) / 8 = 3 ∧ k / 8 = 3) := by omega
        have hp : (((k : Int) + n) / 8 = 0) ∨ (((k : Int) + n) / 8 = 1) ∨ (((k : Int) + n) / 8 = 2) ∨ (((k : Int) + n) / 8 = 3) := by omega
        have sr : srcI 7 (k : Int) n = (k : Int) + n := by unfold srcI; rw [if_neg (by decide), if_pos rfl, if_neg (by omega)]
        have SR := Lib.hid sr
        clear sr
        rcases hq with ⟨hq, hq'⟩ | ⟨hq, hq'⟩ | ⟨hq, hq'⟩ | ⟨hq, hq'⟩ <;> rcases hp with hp | hp | hp | hp
        all_goals try (exfalso; omega)
        all_goals
          have HN := Lib.hid (sh_in _ _ _ SR.out (by omega) (by omega) hq' (by rw [hp]) HX.out)
          clear hq'
          have tq : Int.tdiv (k : Int) 8 = (k : Int) / 8 := Int.tdiv_eq_ediv_of_nonneg (by omega)
          rw [hq] at tq
          have tp : Int.tdiv ((k : Int) + n) 8 = ((k : Int) + n) / 8 := Int.tdiv_eq_ediv_of_nonneg (by omega)
          rw [hp] at tp
          have wz0 : IntKind.i64.wrap (0 : Int) = 0 := by decide
          have wz1 : IntKind.i64.wrap (1 : Int) = 1 := by decide
          have wz2 : IntKind.i64.wrap (2 : Int) = 2 := by decide
          have wz3 : IntKind.i64.wrap (3 : Int) = 3 := by decide
          obtain ⟨c00, c01, c02, c03⟩ := HR.out.c0
          obtain ⟨c10, c11, c12, c13⟩ := HR.out.c1
          obtain ⟨c30, c31, c32, c33⟩ := HR.out.c3
          go_wp2
          have k00 := cell_regrown c00
          have k01 := cell_regrown c01
          have k02 := cell_regrown c02
          have k03 := cell_regrown c03
          have k30 := cell_regrown c30
          have k31 := cell_regrown c31
          have k32 := cell_regrown c32
          have k33 := cell_regrown c33
          refine Reg.wp_region_tail (B := wr) 12 (by kernel_rfl) (by kernel_rfl) (Below.refl _ wr) ?_
          simp only [List.take_succ_cons, List.take_zero, List.drop_succ_cons, List.drop_zero]
          (repeat (first | (refine Reg.wpE_big (by rfl) (fun K hK => ?_) (by rfl); go_big_quiet_op; go_big_quiet_on) | (refine Reg.wpE_step (fun K hK => ?_); go_simp; first | (refine hK _ ?_; clear hK K) | (apply Exists.intro; refine ⟨fun _ => ?_, hK _ ?_⟩; (fail); clear hK K))))
          refine Reg.wpE_nil ?_
          intro w1 hb1
          have HR1 := Lib.hid (HR.out.grow hb1)
          obtain ⟨d0, d1, d2, d3⟩ := HR1.out.c3
          have f0 : w1.frozen? ⟨W.heap.size + 1 + 1 + 1, 0, none⟩ = false := blk_frozen HR1.out.h3 0
          have f1 : w1.frozen? ⟨W.heap.size + 1 + 1 + 1, 1, none⟩ = false := blk_frozen HR1.out.h3 1
          have f2 : w1.frozen? ⟨W.heap.size + 1 + 1 + 1, 2, none⟩ = false := blk_frozen HR1.out.h3 2
          have f3 : w1.frozen? ⟨W.heap.size + 1 + 1 + 1, 3, none⟩ = false := blk_frozen HR1.out.h3 3
          go_wp2
          go_roundw
          case rel => exact ⟨k + 1, by omega, by go_num, _, _, _, _, Lib.hid (by first | exact HR1.out.set0 _ | exact HR1.out.set1 _ | exact HR1.out.set2 _ | exact HR1.out.set3 _), Lib.hid HN.out⟩
          case measure => simp [intOf]; omega
      · have hs' : 31 < (k : Int) + n := by omega
        have hq : ((k : Int) / 8 = 0 ∧ k / 8 = 0) ∨ ((k : Int) / 8 = 1 ∧ k / 8 = 1) ∨ ((k : Int) / 8 = 2 ∧ k / 8 = 2) ∨ ((k : Int) / 8 = 3 ∧ k / 8 = 3) := by omega
        have sr : srcI 7 (k : Int) n = 31 := by unfold srcI; rw [if_neg (by decide), if_pos rfl, if_pos hs']
        have SR := Lib.hid sr
        clear sr hs
        rcases hq with ⟨hq, hq'⟩ | ⟨hq, hq'⟩ | ⟨hq, hq'⟩ | ⟨hq, hq'⟩
        all_goals
          have HN := Lib.hid (sh_in _ 3 _ SR.out (by omega) (by omega) hq' rfl HX.out)
          clear hq'
          have tq : Int.tdiv (k : Int) 8 = (k : Int) / 8 := Int.tdiv_eq_ediv_of_nonneg (by omega)
          rw [hq] at tq
          have wz0 : IntKind.i64.wrap (0 : Int) = 0 := by decide
          have wz1 : IntKind.i64.wrap (1 : Int) = 1 := by decide
          have wz2 : IntKind.i64.wrap (2 : Int) = 2 := by decide
          have wz3 : IntKind.i64.wrap (3 : Int) = 3 := by decide
          obtain ⟨c00, c01, c02, c03⟩ := HR.out.c0
          obtain ⟨c10, c11, c12, c13⟩ := HR.out.c1
          obtain ⟨c30, c31, c32, c33⟩ := HR.out.c3
          go_wp2
          have k00 := cell_regrown c00
          have k01 := cell_regrown c01
          have k02 := cell_regrown c02
          have k03 := cell_regrown c03
          have k30 := cell_regrown c30
          have k31 := cell_regrown c31
          have k32 := cell_regrown c32
          have k33 := cell_regrown c33
          refine Reg.wp_region_tail (B := wr) 12 (by kernel_rfl) (by kernel_rfl) (Below.refl _ wr) ?_
          simp only [List.take_succ_cons, List.take_zero, List.drop_succ_cons, List.drop_zero]
          (repeat (first | (refine Reg.wpE_big (by rfl) (fun K hK => ?_) (by rfl); go_big_quiet_op; go_big_quiet_on) | (refine Reg.wpE_step (fun K hK => ?_); go_simp; first | (refine hK _ ?_; clear hK K) | (apply Exists.intro; refine ⟨fun _ => ?_, hK _ ?_⟩; (fail); clear hK K))))
          refine Reg.wpE_nil ?_
          intro w1 hb1
          have HR1 := Lib.hid (HR.out.grow hb1)
          obtain ⟨d0, d1, d2, d3⟩ := HR1.out.c3
          have f0 : w1.frozen? ⟨W.heap.size + 1 + 1 + 1, 0, none⟩ = false := blk_frozen HR1.out.h3 0
          have f1 : w1.frozen? ⟨W.heap.size + 1 + 1 + 1, 1, none⟩ = false := blk_frozen HR1.out.h3 1
          have f2 : w1.frozen? ⟨W.heap.size + 1 + 1 + 1, 2, none⟩ = false := blk_frozen HR1.out.h3 2
          have f3 : w1.frozen? ⟨W.heap.size + 1 + 1 + 1, 3, none⟩ = false := blk_frozen HR1.out.h3 3
          go_wp2
          go_roundw
          case rel => exact ⟨k + 1, by omega, by go_num, _, _, _, _, Lib.hid (by first | exact HR1.out.set0 _ | exact HR1.out.set1 _ | exact HR1.out.set2 _ | exact HR1.out.set3 _), Lib.hid HN.out⟩
          case measure => simp [intOf]; omega
    · obtain rfl : k = 32 := by omega
      clear hlt hk
      refine Reg.wp_open (fun w' => RW W (a0, a1, a2, a3) (0, b1, b2, b3) (x0, x1, x2, x3) w') HR.out (fun Bq hS => ?_)
      have HR2 := Lib.hid hS
      clear hS HR
      have c00 : Bq.cell? ⟨W.heap.size, 0, none⟩ = some (.int .u8 a0) := (blk_cell HR2.out.h0 0).trans rfl
      have c01 : Bq.cell? ⟨W.heap.size, 1, none⟩ = some (.int .u8 a1) := (blk_cell HR2.out.h0 1).trans rfl
      have c02 : Bq.cell? ⟨W.heap.size, 2, none⟩ = some (.int .u8 a2) := (blk_cell HR2.out.h0 2).trans rfl
      have c03 : Bq.cell? ⟨W.heap.size, 3, none⟩ = some (.int .u8 a3) := (blk_cell HR2.out.h0 3).trans rfl
      have c10 : Bq.cell? ⟨W.heap.size + 1, 0, none⟩ = some (.int .u8 0) := (blk_cell HR2.out.h1 0).trans rfl
      have c11 : Bq.cell? ⟨W.heap.size + 1, 1, none⟩ = some (.int .u8 b1) := (blk_cell HR2.out.h1 1).trans rfl
      have c12 : Bq.cell? ⟨W.heap.size + 1, 2, none⟩ = some (.int .u8 b2) := (blk_cell HR2.out.h1 2).trans rfl
      have c13 : Bq.cell? ⟨W.heap.size + 1, 3, none⟩ = some (.int .u8 b3) := (blk_cell HR2.out.h1 3).trans rfl
      have c20 : Bq.cell? ⟨W.heap.size + 1 + 1, 0, none⟩ = some (.int .u8 0) := (blk_cell HR2.out.h2 0).trans rfl
      have c21 : Bq.cell? ⟨W.heap.size + 1 + 1, 1, none⟩ = some (.int .u8 0) := (blk_cell HR2.out.h2 1).trans rfl
      have c22 : Bq.cell? ⟨W.heap.size + 1 + 1, 2, none⟩ = some (.int .u8 0) := (blk_cell HR2.out.h2 2).trans rfl
      have c23 : Bq.cell? ⟨W.heap.size + 1 + 1, 3, none⟩ = some (.int .u8 0) := (blk_cell HR2.out.h2 3).trans rfl
      have c30 : Bq.cell? ⟨W.heap.size + 1 + 1 + 1, 0, none⟩ = some (.int .u8 x0) := (blk_cell HR2.out.h3 0).trans rfl
      have c31 : Bq.cell? ⟨W.heap.size + 1 + 1 + 1, 1, none⟩ = some (.int .u8 x1) := (blk_cell HR2.out.h3 1).trans rfl
      have c32 : Bq.cell? ⟨W.heap.size + 1 + 1 + 1, 2, none⟩ = some (.int .u8 x2) := (blk_cell HR2.out.h3 2).trans rfl
      have c33 : Bq.cell? ⟨W.heap.size + 1 + 1 + 1, 3, none⟩ = some (.int .u8 x3) := (blk_cell HR2.out.h3 3).trans rfl
      have z0 : Bq.frozen? ⟨W.heap.size + 1 + 1, 0, none⟩ = false := blk_frozen HR2.out.h2 0
      have z1 : Bq.frozen? ⟨W.heap.size + 1 + 1, 1, none⟩ = false := blk_frozen HR2.out.h2 1
      have z2 : Bq.frozen? ⟨W.heap.size + 1 + 1, 2, none⟩ = false := blk_frozen HR2.out.h2 2
      have z3 : Bq.frozen? ⟨W.heap.size + 1 + 1, 3, none⟩ = false := blk_frozen HR2.out.h2 3
      go_wp2
      have hE := HR2.out.e
      have G2 := HR2.out.h2
      have le2 : W.heap.size ≤ W.heap.size + 1 + 1 := by omega
      refine Reg.post_open (fun w' => Ext W w' ∧ w'.heap[W.heap.size + 1 + 1]? = some (.cells #[.int .u8 x0, .int .u8 x1, .int .u8 x2, .int .u8 x3] 24 (0, 0))) ⟨(Below.setCell (Below.setCell (Below.setCell (Below.setCell hE le2 _) le2 _) le2 _) le2 _), (blk_set (blk_set (blk_set (blk_set G2 0 _) 1 _) 2 _) 3 _)⟩ (fun Bz hS => ?_)
      obtain ⟨hEz, Gz⟩ := hS
      have r0 : Bz.cell? ⟨W.heap.size + 1 + 1, 0, none⟩ = some (.int .u8 x0) := (blk_cell Gz 0).trans rfl
      have r1 : Bz.cell? ⟨W.heap.size + 1 + 1, 1, none⟩ = some (.int .u8 x1) := (blk_cell Gz 1).trans rfl
      have r2 : Bz.cell? ⟨W.heap.size + 1 + 1, 2, none⟩ = some (.int .u8 x2) := (blk_cell Gz 2).trans rfl
      have r3 : Bz.cell? ⟨W.heap.size + 1 + 1, 3, none⟩ = some (.int .u8 x3) := (blk_cell Gz 3).trans rfl
      refine bodyPost_ret (v := .tuple #[.agg #[.int .u8 x0, .int .u8 x1, .int .u8 x2, .int .u8 x3], .bool true]) (by simp [results, Try.results14, go_sem, r0, r1, r2, r3]) rfl ?_
      exact ⟨by have hv : shAcc 7 n (a0, a1, a2, a3) 32 = (x0, x1, x2, x3) := HX.out; rw [hv]; rfl, hEz⟩
end Go.Proofs.Ytbhoijkamnaopaa.Tag
