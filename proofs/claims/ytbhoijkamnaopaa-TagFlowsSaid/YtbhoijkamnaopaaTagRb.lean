/- What the reference's Flow answers. -/
import Derived.Test.YtbhoijkamnaopaaTagC
import Derived.LoopTactic
import Derived.StillTailTactics
import Derived.BigRegion
import Derived.LoopN
import Derived.Deep.RegionHeld3
import Derived.Lib.Hide
namespace Go.Proofs.Ytbhoijkamnaopaa.Tag
open Go Go.RowKit Go.Proofs.YtbhoijkamnaopaaW.PrintWords Go.Proofs.YtbhoijkamnaopaaW.PrintLast Go.Proofs.YtbhoijkamnaopaaW.PrintMore Go.Proofs.Ytbhoijkamnaopaa Go.Sort
set_option linter.unusedVariables false
set_option linter.unusedSimpArgs false
attribute [local go_sem] Reg.qeOp Reg.qeUpon
/-- The reference's loop: its world. -/
structure RW (W : World) (s t x : T4) (w : World) : Prop where
  e : Ext W w
  h0 : w.heap[W.heap.size]? = some (.cells #[.int .u8 s.1, .int .u8 s.2.1, .int .u8 s.2.2.1, .int .u8 s.2.2.2] 24 (0, 0))
  h1 : w.heap[W.heap.size + 1]? = some (.cells #[.int .u8 t.1, .int .u8 t.2.1, .int .u8 t.2.2.1, .int .u8 t.2.2.2] 24 (0, 0))
  h2 : w.heap[W.heap.size + 1 + 1]? = some (.cells #[.int .u8 0, .int .u8 0, .int .u8 0, .int .u8 0] 24 (0, 0))
  h3 : w.heap[W.heap.size + 1 + 1 + 1]? = some (.cells #[.int .u8 x.1, .int .u8 x.2.1, .int .u8 x.2.2.1, .int .u8 x.2.2.2] 24 (0, 0))
theorem RW.grow {W w w' : World} {s t x : T4} (h : RW W s t x w) (hb : Below w.heap.size w w') : RW W s t x w' :=
  ⟨Ext.trans h.e hb, Reg.blk_later h.h0 hb, Reg.blk_later h.h1 hb, Reg.blk_later h.h2 hb, Reg.blk_later h.h3 hb⟩
theorem RW.c0 {W w : World} {a0 a1 a2 a3 : Int} {t x : T4} (h : RW W (a0, a1, a2, a3) t x w) : w.cell? ⟨W.heap.size, 0, none⟩ = some (.int .u8 a0) ∧ w.cell? ⟨W.heap.size, 1, none⟩ = some (.int .u8 a1) ∧ w.cell? ⟨W.heap.size, 2, none⟩ = some (.int .u8 a2) ∧ w.cell? ⟨W.heap.size, 3, none⟩ = some (.int .u8 a3) :=
  ⟨(blk_cell h.h0 0).trans rfl, (blk_cell h.h0 1).trans rfl, (blk_cell h.h0 2).trans rfl, (blk_cell h.h0 3).trans rfl⟩
theorem RW.c1 {W w : World} {a0 a1 a2 a3 : Int} {s x : T4} (h : RW W s (a0, a1, a2, a3) x w) : w.cell? ⟨W.heap.size + 1, 0, none⟩ = some (.int .u8 a0) ∧ w.cell? ⟨W.heap.size + 1, 1, none⟩ = some (.int .u8 a1) ∧ w.cell? ⟨W.heap.size + 1, 2, none⟩ = some (.int .u8 a2) ∧ w.cell? ⟨W.heap.size + 1, 3, none⟩ = some (.int .u8 a3) :=
  ⟨(blk_cell h.h1 0).trans rfl, (blk_cell h.h1 1).trans rfl, (blk_cell h.h1 2).trans rfl, (blk_cell h.h1 3).trans rfl⟩
theorem RW.c3 {W w : World} {a0 a1 a2 a3 : Int} {s t : T4} (h : RW W s t (a0, a1, a2, a3) w) : w.cell? ⟨W.heap.size + 1 + 1 + 1, 0, none⟩ = some (.int .u8 a0) ∧ w.cell? ⟨W.heap.size + 1 + 1 + 1, 1, none⟩ = some (.int .u8 a1) ∧ w.cell? ⟨W.heap.size + 1 + 1 + 1, 2, none⟩ = some (.int .u8 a2) ∧ w.cell? ⟨W.heap.size + 1 + 1 + 1, 3, none⟩ = some (.int .u8 a3) :=
  ⟨(blk_cell h.h3 0).trans rfl, (blk_cell h.h3 1).trans rfl, (blk_cell h.h3 2).trans rfl, (blk_cell h.h3 3).trans rfl⟩
theorem RW.set0 {W w : World} {s t : T4} {x0 x1 x2 x3 : Int} (h : RW W s t (x0, x1, x2, x3) w) (v : Int) : RW W s t (v, x1, x2, x3) (w.setCell ⟨W.heap.size + 1 + 1 + 1, 0, none⟩ (.int .u8 v)) :=
  ⟨Below.setCell h.e (by show W.heap.size ≤ W.heap.size + 1 + 1 + 1; omega) _, blk_far h.h0 (by show W.heap.size ≠ W.heap.size + 1 + 1 + 1; omega) _, blk_far h.h1 (by show W.heap.size + 1 ≠ W.heap.size + 1 + 1 + 1; omega) _, blk_far h.h2 (by show W.heap.size + 1 + 1 ≠ W.heap.size + 1 + 1 + 1; omega) _, blk_put h.h3 0 _ rfl⟩
theorem RW.set1 {W w : World} {s t : T4} {x0 x1 x2 x3 : Int} (h : RW W s t (x0, x1, x2, x3) w) (v : Int) : RW W s t (x0, v, x2, x3) (w.setCell ⟨W.heap.size + 1 + 1 + 1, 1, none⟩ (.int .u8 v)) :=
  ⟨Below.setCell h.e (by show W.heap.size ≤ W.heap.size + 1 + 1 + 1; omega) _, blk_far h.h0 (by show W.heap.size ≠ W.heap.size + 1 + 1 + 1; omega) _, blk_far h.h1 (by show W.heap.size + 1 ≠ W.heap.size + 1 + 1 + 1; omega) _, blk_far h.h2 (by show W.heap.size + 1 + 1 ≠ W.heap.size + 1 + 1 + 1; omega) _, blk_put h.h3 1 _ rfl⟩
theorem RW.set2 {W w : World} {s t : T4} {x0 x1 x2 x3 : Int} (h : RW W s t (x0, x1, x2, x3) w) (v : Int) : RW W s t (x0, x1, v, x3) (w.setCell ⟨W.heap.size + 1 + 1 + 1, 2, none⟩ (.int .u8 v)) :=
  ⟨Below.setCell h.e (by show W.heap.size ≤ W.heap.size + 1 + 1 + 1; omega) _, blk_far h.h0 (by show W.heap.size ≠ W.heap.size + 1 + 1 + 1; omega) _, blk_far h.h1 (by show W.heap.size + 1 ≠ W.heap.size + 1 + 1 + 1; omega) _, blk_far h.h2 (by show W.heap.size + 1 + 1 ≠ W.heap.size + 1 + 1 + 1; omega) _, blk_put h.h3 2 _ rfl⟩
theorem RW.set3 {W w : World} {s t : T4} {x0 x1 x2 x3 : Int} (h : RW W s t (x0, x1, x2, x3) w) (v : Int) : RW W s t (x0, x1, x2, v) (w.setCell ⟨W.heap.size + 1 + 1 + 1, 3, none⟩ (.int .u8 v)) :=
  ⟨Below.setCell h.e (by show W.heap.size ≤ W.heap.size + 1 + 1 + 1; omega) _, blk_far h.h0 (by show W.heap.size ≠ W.heap.size + 1 + 1 + 1; omega) _, blk_far h.h1 (by show W.heap.size + 1 ≠ W.heap.size + 1 + 1 + 1; omega) _, blk_far h.h2 (by show W.heap.size + 1 + 1 ≠ W.heap.size + 1 + 1 + 1; omega) _, blk_put h.h3 3 _ rfl⟩
set_option maxRecDepth 100000 in
set_option maxHeartbeats 40000000 in
theorem flow14b_ {a b a0 a1 a2 a3 b0 b1 b2 b3 : Int} (W : World) (ha : 0 ≤ a) (ha' : a < 4294967296) (hb : 0 ≤ b) (hb' : b < 4294967296) : Calls Try.prog 14 #[.int .i64 9, .int .u32 a, .int .u32 b, .agg #[.int .u8 a0, .int .u8 a1, .int .u8 a2, .int .u8 a3], .agg #[.int .u8 b0, .int .u8 b1, .int .u8 b2, .int .u8 b3]] W (RetE (.tuple #[tagOf (mAcc a b (a0, a1, a2, a3) (b0, b1, b2, b3) 4), .bool true]) W) := by
  go_enter Try.func14, Try.ntmps14
  go_wp2_with fail
  refine Reg.wp_open (fun w' => RW W (a0, a1, a2, a3) (b0, b1, b2, b3) (0, 0, 0, 0) w') ⟨by (repeat' (first | assumption | exact Ext.refl _ | refine Ext.drewN ?_ | refine Ext.drew ?_ | refine Ext.alloc ?_)), (by have h := blk_alloc (blk_alloc (blk_alloc (blk_new W (.cells #[.int .u8 a0, .int .u8 a1, .int .u8 a2, .int .u8 a3] 24)) (.cells #[.int .u8 b0, .int .u8 b1, .int .u8 b2, .int .u8 b3] 24)) (.cells #[.int .u8 0, .int .u8 0, .int .u8 0, .int .u8 0] 24)) (.cells #[.int .u8 0, .int .u8 0, .int .u8 0, .int .u8 0] 24); simpa using h), (by have h := blk_alloc (blk_alloc (blk_new (W.alloc (.cells #[.int .u8 a0, .int .u8 a1, .int .u8 a2, .int .u8 a3] 24)) (.cells #[.int .u8 b0, .int .u8 b1, .int .u8 b2, .int .u8 b3] 24)) (.cells #[.int .u8 0, .int .u8 0, .int .u8 0, .int .u8 0] 24)) (.cells #[.int .u8 0, .int .u8 0, .int .u8 0, .int .u8 0] 24); simpa using h), (by have h := blk_alloc (blk_new ((W.alloc (.cells #[.int .u8 a0, .int .u8 a1, .int .u8 a2, .int .u8 a3] 24)).alloc (.cells #[.int .u8 b0, .int .u8 b1, .int .u8 b2, .int .u8 b3] 24)) (.cells #[.int .u8 0, .int .u8 0, .int .u8 0, .int .u8 0] 24)) (.cells #[.int .u8 0, .int .u8 0, .int .u8 0, .int .u8 0] 24); simpa using h), (by have h := blk_new (((W.alloc (.cells #[.int .u8 a0, .int .u8 a1, .int .u8 a2, .int .u8 a3] 24)).alloc (.cells #[.int .u8 b0, .int .u8 b1, .int .u8 b2, .int .u8 b3] 24)).alloc (.cells #[.int .u8 0, .int .u8 0, .int .u8 0, .int .u8 0] 24)) (.cells #[.int .u8 0, .int .u8 0, .int .u8 0, .int .u8 0] 24); simpa using h)⟩ (fun Bq hS => ?_)
  have HS := Lib.hid hS
  clear hS
  go_loopw [13] (fun c wr => ∃ k : Int, 0 ≤ k ∧ k ≤ 4 ∧ c = .int .i64 k ∧ ∃ (x0 x1 x2 x3 : Int), Hid (RW W (a0, a1, a2, a3) (b0, b1, b2, b3) (x0, x1, x2, x3) wr) ∧ Hid (mAcc a b (a0, a1, a2, a3) (b0, b1, b2, b3) k.toNat = (x0, x1, x2, x3))) (fun c _ => 4 - (intOf c).toNat)
  case atStart => exact ⟨0, by omega, by omega, rfl, 0, 0, 0, 0, HS, Lib.hid rfl⟩
  case round =>
    obtain ⟨k, hk0, hk, rfl, x0, x1, x2, x3, HR, HX⟩ := hrel
    clear HS
    by_cases hlt : k < 4
    · have hq : k = 0 ∨ k = 1 ∨ k = 2 ∨ k = 3 := by omega
      clear hlt hk hk0
      rcases hq with rfl | rfl | rfl | rfl
      · have HY := HX.out
        simp only [show Int.toNat 0 = 0 from rfl, mAcc, Prod.mk.injEq] at HY
        obtain ⟨rfl, rfl, rfl, rfl⟩ := HY
        rcases (show (a0 = 0 ∧ byI a 0 = 0) ∨ ((a0 = 0 ∧ ¬ byI a 0 = 0) ∨ ¬ a0 = 0) ∧ ((b0 = 0 ∧ byI b 0 = 0) ∨ (b0 = 0 ∧ ¬ byI b 0 = 0) ∨ ¬ b0 = 0) from by rcases Decidable.em (a0 = 0) with h1 | h1 <;> rcases Decidable.em (byI a 0 = 0) with h2 | h2 <;> rcases Decidable.em (b0 = 0) with h3 | h3 <;> rcases Decidable.em (byI b 0 = 0) with h4 | h4 <;> simp [h1, h2, h3, h4]) with ⟨rfl, zx⟩ | ⟨⟨rfl, zx⟩ | za, ⟨rfl, zy⟩ | ⟨rfl, zy⟩ | zb⟩
        all_goals try simp only [byI] at zx
        all_goals try simp only [byI] at zy
        all_goals
          obtain ⟨c00, c01, c02, c03⟩ := HR.out.c0
          obtain ⟨c10, c11, c12, c13⟩ := HR.out.c1
          obtain ⟨c30, c31, c32, c33⟩ := HR.out.c3
          go_wp2
          all_goals first
            | (go_roundw; (case rel => exact ⟨1, by omega, by omega, by first | rfl | go_num, _, _, _, _, HR, Lib.hid (by simp [show Int.toNat 1 = 1 from rfl, mAcc, mB, byI, or8, or00, *])⟩); (case measure => simp [intOf]; done))
            | (have k00 := cell_regrown c00; have k01 := cell_regrown c01; have k02 := cell_regrown c02; have k03 := cell_regrown c03; have k10 := cell_regrown c10; have k11 := cell_regrown c11; have k12 := cell_regrown c12; have k13 := cell_regrown c13; refine Reg.wp_region_tail (B := wr) 9 (by kernel_rfl) (by kernel_rfl) (Below.refl _ wr) ?_; simp only [List.take_succ_cons, List.take_zero, List.drop_succ_cons, List.drop_zero]; (repeat (first | (refine Reg.wpE_big (by rfl) (fun K hK => ?_) (by rfl); go_big_quiet_op; go_big_quiet_on) | (refine Reg.wpE_step (fun K hK => ?_); go_simp; first | (refine hK _ ?_; clear hK K) | (apply Exists.intro; refine ⟨fun _ => ?_, hK _ ?_⟩; (fail); clear hK K)))); refine Reg.wpE_nil ?_; intro w1 hb1; have HR1 := Lib.hid (HR.out.grow hb1); have d3 : w1.cell? ⟨W.heap.size + 1 + 1 + 1, 0, none⟩ = some (.int .u8 0) := (blk_cell HR1.out.h3 0).trans rfl; have f3 : w1.frozen? ⟨W.heap.size + 1 + 1 + 1, 0, none⟩ = false := blk_frozen HR1.out.h3 0; go_wp2; go_roundw; (case rel => exact ⟨1, by omega, by omega, by first | rfl | go_num, _, _, _, _, Lib.hid (HR1.out.set0 _), Lib.hid (by simp [show Int.toNat 1 = 1 from rfl, mAcc, mB, byI, or8, or00, *])⟩); (case measure => simp [intOf]; done))
            | (exfalso; omega)
            | (exfalso; simp_all; done)
      · have HY := HX.out
        simp only [show Int.toNat 1 = 1 from rfl, mAcc, Prod.mk.injEq] at HY
        obtain ⟨rfl, rfl, rfl, rfl⟩ := HY
        rcases (show (a1 = 0 ∧ byI a 1 = 0) ∨ ((a1 = 0 ∧ ¬ byI a 1 = 0) ∨ ¬ a1 = 0) ∧ ((b1 = 0 ∧ byI b 1 = 0) ∨ (b1 = 0 ∧ ¬ byI b 1 = 0) ∨ ¬ b1 = 0) from by rcases Decidable.em (a1 = 0) with h1 | h1 <;> rcases Decidable.em (byI a 1 = 0) with h2 | h2 <;> rcases Decidable.em (b1 = 0) with h3 | h3 <;> rcases Decidable.em (byI b 1 = 0) with h4 | h4 <;> simp [h1, h2, h3, h4]) with ⟨rfl, zx⟩ | ⟨⟨rfl, zx⟩ | za, ⟨rfl, zy⟩ | ⟨rfl, zy⟩ | zb⟩
        all_goals try simp only [byI] at zx
        all_goals try simp only [byI] at zy
        all_goals
          obtain ⟨c00, c01, c02, c03⟩ := HR.out.c0
          obtain ⟨c10, c11, c12, c13⟩ := HR.out.c1
          obtain ⟨c30, c31, c32, c33⟩ := HR.out.c3
          go_wp2
          all_goals first
            | (go_roundw; (case rel => exact ⟨2, by omega, by omega, by first | rfl | go_num, _, _, _, _, HR, Lib.hid (by simp [show Int.toNat 2 = 2 from rfl, mAcc, mB, byI, or8, or00, *])⟩); (case measure => simp [intOf]; done))
            | (have k00 := cell_regrown c00; have k01 := cell_regrown c01; have k02 := cell_regrown c02; have k03 := cell_regrown c03; have k10 := cell_regrown c10; have k11 := cell_regrown c11; have k12 := cell_regrown c12; have k13 := cell_regrown c13; refine Reg.wp_region_tail (B := wr) 9 (by kernel_rfl) (by kernel_rfl) (Below.refl _ wr) ?_; simp only [List.take_succ_cons, List.take_zero, List.drop_succ_cons, List.drop_zero]; (repeat (first | (refine Reg.wpE_big (by rfl) (fun K hK => ?_) (by rfl); go_big_quiet_op; go_big_quiet_on) | (refine Reg.wpE_step (fun K hK => ?_); go_simp; first | (refine hK _ ?_; clear hK K) | (apply Exists.intro; refine ⟨fun _ => ?_, hK _ ?_⟩; (fail); clear hK K)))); refine Reg.wpE_nil ?_; intro w1 hb1; have HR1 := Lib.hid (HR.out.grow hb1); have d3 : w1.cell? ⟨W.heap.size + 1 + 1 + 1, 1, none⟩ = some (.int .u8 0) := (blk_cell HR1.out.h3 1).trans rfl; have f3 : w1.frozen? ⟨W.heap.size + 1 + 1 + 1, 1, none⟩ = false := blk_frozen HR1.out.h3 1; go_wp2; go_roundw; (case rel => exact ⟨2, by omega, by omega, by first | rfl | go_num, _, _, _, _, Lib.hid (HR1.out.set1 _), Lib.hid (by simp [show Int.toNat 2 = 2 from rfl, mAcc, mB, byI, or8, or00, *])⟩); (case measure => simp [intOf]; done))
            | (exfalso; omega)
            | (exfalso; simp_all; done)
      · have HY := HX.out
        simp only [show Int.toNat 2 = 2 from rfl, mAcc, Prod.mk.injEq] at HY
        obtain ⟨rfl, rfl, rfl, rfl⟩ := HY
        rcases (show (a2 = 0 ∧ byI a 2 = 0) ∨ ((a2 = 0 ∧ ¬ byI a 2 = 0) ∨ ¬ a2 = 0) ∧ ((b2 = 0 ∧ byI b 2 = 0) ∨ (b2 = 0 ∧ ¬ byI b 2 = 0) ∨ ¬ b2 = 0) from by rcases Decidable.em (a2 = 0) with h1 | h1 <;> rcases Decidable.em (byI a 2 = 0) with h2 | h2 <;> rcases Decidable.em (b2 = 0) with h3 | h3 <;> rcases Decidable.em (byI b 2 = 0) with h4 | h4 <;> simp [h1, h2, h3, h4]) with ⟨rfl, zx⟩ | ⟨⟨rfl, zx⟩ | za, ⟨rfl, zy⟩ | ⟨rfl, zy⟩ | zb⟩
        all_goals try simp only [byI] at zx
        all_goals try simp only [byI] at zy
        all_goals
          obtain ⟨c00, c01, c02, c03⟩ := HR.out.c0
          obtain ⟨c10, c11, c12, c13⟩ := HR.out.c1
          obtain ⟨c30, c31, c32, c33⟩ := HR.out.c3
          go_wp2
          all_goals first
            | (go_roundw; (case rel => exact ⟨3, by omega, by omega, by first | rfl | go_num, _, _, _, _, HR, Lib.hid (by simp [show Int.toNat 3 = 3 from rfl, mAcc, mB, byI, or8, or00, *])⟩); (case measure => simp [intOf]; done))
            | (have k00 := cell_regrown c00; have k01 := cell_regrown c01; have k02 := cell_regrown c02; have k03 := cell_regrown c03; have k10 := cell_regrown c10; have k11 := cell_regrown c11; have k12 := cell_regrown c12; have k13 := cell_regrown c13; refine Reg.wp_region_tail (B := wr) 9 (by kernel_rfl) (by kernel_rfl) (Below.refl _ wr) ?_; simp only [List.take_succ_cons, List.take_zero, List.drop_succ_cons, List.drop_zero]; (repeat (first | (refine Reg.wpE_big (by rfl) (fun K hK => ?_) (by rfl); go_big_quiet_op; go_big_quiet_on) | (refine Reg.wpE_step (fun K hK => ?_); go_simp; first | (refine hK _ ?_; clear hK K) | (apply Exists.intro; refine ⟨fun _ => ?_, hK _ ?_⟩; (fail); clear hK K)))); refine Reg.wpE_nil ?_; intro w1 hb1; have HR1 := Lib.hid (HR.out.grow hb1); have d3 : w1.cell? ⟨W.heap.size + 1 + 1 + 1, 2, none⟩ = some (.int .u8 0) := (blk_cell HR1.out.h3 2).trans rfl; have f3 : w1.frozen? ⟨W.heap.size + 1 + 1 + 1, 2, none⟩ = false := blk_frozen HR1.out.h3 2; go_wp2; go_roundw; (case rel => exact ⟨3, by omega, by omega, by first | rfl | go_num, _, _, _, _, Lib.hid (HR1.out.set2 _), Lib.hid (by simp [show Int.toNat 3 = 3 from rfl, mAcc, mB, byI, or8, or00, *])⟩); (case measure => simp [intOf]; done))
            | (exfalso; omega)
            | (exfalso; simp_all; done)
      · have HY := HX.out
        simp only [show Int.toNat 3 = 3 from rfl, mAcc, Prod.mk.injEq] at HY
        obtain ⟨rfl, rfl, rfl, rfl⟩ := HY
        rcases (show (a3 = 0 ∧ byI a 3 = 0) ∨ ((a3 = 0 ∧ ¬ byI a 3 = 0) ∨ ¬ a3 = 0) ∧ ((b3 = 0 ∧ byI b 3 = 0) ∨ (b3 = 0 ∧ ¬ byI b 3 = 0) ∨ ¬ b3 = 0) from by rcases Decidable.em (a3 = 0) with h1 | h1 <;> rcases Decidable.em (byI a 3 = 0) with h2 | h2 <;> rcases Decidable.em (b3 = 0) with h3 | h3 <;> rcases Decidable.em (byI b 3 = 0) with h4 | h4 <;> simp [h1, h2, h3, h4]) with ⟨rfl, zx⟩ | ⟨⟨rfl, zx⟩ | za, ⟨rfl, zy⟩ | ⟨rfl, zy⟩ | zb⟩
        all_goals try simp only [byI] at zx
        all_goals try simp only [byI] at zy
        all_goals
          obtain ⟨c00, c01, c02, c03⟩ := HR.out.c0
          obtain ⟨c10, c11, c12, c13⟩ := HR.out.c1
          obtain ⟨c30, c31, c32, c33⟩ := HR.out.c3
          go_wp2
          all_goals first
            | (go_roundw; (case rel => exact ⟨4, by omega, by omega, by first | rfl | go_num, _, _, _, _, HR, Lib.hid (by simp [show Int.toNat 4 = 4 from rfl, mAcc, mB, byI, or8, or00, *])⟩); (case measure => simp [intOf]; done))
            | (have k00 := cell_regrown c00; have k01 := cell_regrown c01; have k02 := cell_regrown c02; have k03 := cell_regrown c03; have k10 := cell_regrown c10; have k11 := cell_regrown c11; have k12 := cell_regrown c12; have k13 := cell_regrown c13; refine Reg.wp_region_tail (B := wr) 9 (by kernel_rfl) (by kernel_rfl) (Below.refl _ wr) ?_; simp only [List.take_succ_cons, List.take_zero, List.drop_succ_cons, List.drop_zero]; (repeat (first | (refine Reg.wpE_big (by rfl) (fun K hK => ?_) (by rfl); go_big_quiet_op; go_big_quiet_on) | (refine Reg.wpE_step (fun K hK => ?_); go_simp; first | (refine hK _ ?_; clear hK K) | (apply Exists.intro; refine ⟨fun _ => ?_, hK _ ?_⟩; (fail); clear hK K)))); refine Reg.wpE_nil ?_; intro w1 hb1; have HR1 := Lib.hid (HR.out.grow hb1); have d3 : w1.cell? ⟨W.heap.size + 1 + 1 + 1, 3, none⟩ = some (.int .u8 0) := (blk_cell HR1.out.h3 3).trans rfl; have f3 : w1.frozen? ⟨W.heap.size + 1 + 1 + 1, 3, none⟩ = false := blk_frozen HR1.out.h3 3; go_wp2; go_roundw; (case rel => exact ⟨4, by omega, by omega, by first | rfl | go_num, _, _, _, _, Lib.hid (HR1.out.set3 _), Lib.hid (by simp [show Int.toNat 4 = 4 from rfl, mAcc, mB, byI, or8, or00, *])⟩); (case measure => simp [intOf]; done))
            | (exfalso; omega)
            | (exfalso; simp_all; done)
    · obtain rfl : k = 4 := by omega
      clear hlt hk hk0
      refine Reg.wp_open (fun w' => RW W (a0, a1, a2, a3) (b0, b1, b2, b3) (x0, x1, x2, x3) w') HR.out (fun Bq hS => ?_)
      have HR2 := Lib.hid hS
      clear hS HR
      have c00 : Bq.cell? ⟨W.heap.size, 0, none⟩ = some (.int .u8 a0) := (blk_cell HR2.out.h0 0).trans rfl
      have c01 : Bq.cell? ⟨W.heap.size, 1, none⟩ = some (.int .u8 a1) := (blk_cell HR2.out.h0 1).trans rfl
      have c02 : Bq.cell? ⟨W.heap.size, 2, none⟩ = some (.int .u8 a2) := (blk_cell HR2.out.h0 2).trans rfl
      have c03 : Bq.cell? ⟨W.heap.size, 3, none⟩ = some (.int .u8 a3) := (blk_cell HR2.out.h0 3).trans rfl
      have c10 : Bq.cell? ⟨W.heap.size + 1, 0, none⟩ = some (.int .u8 b0) := (blk_cell HR2.out.h1 0).trans rfl
      have c11 : Bq.cell? ⟨W.heap.size + 1, 1, none⟩ = some (.int .u8 b1) := (blk_cell HR2.out.h1 1).trans rfl
      have c12 : Bq.cell? ⟨W.heap.size + 1, 2, none⟩ = some (.int .u8 b2) := (blk_cell HR2.out.h1 2).trans rfl
      have c13 : Bq.cell? ⟨W.heap.size + 1, 3, none⟩ = some (.int .u8 b3) := (blk_cell HR2.out.h1 3).trans rfl
      have c20 : Bq.cell? ⟨W.heap.size + 1 + 1, 0, none⟩ = some (.int .u8 0) := (blk_cell HR2.out.h2 0).trans rfl
      have c21 : Bq.cell? ⟨W.heap.size + 1 + 1, 1, none⟩ = some (.int .u8 0) := (blk_cell HR2.out.h2 1).trans rfl
      have c22 : Bq.cell? ⟨W.heap.size + 1 + 1, 2, none⟩ = some (.int .u8 0) := (blk_cell HR2.out.h2 2).trans rfl
      have c23 : Bq.cell? ⟨W.heap.size + 1 + 1, 3, none⟩ = some (.int .u8 0) := (blk_cell HR2.out.h2 3).trans rfl
      have c30 : Bq.cell? ⟨W.heap.size + 1 + 1 + 1, 0, none⟩ = some (.int .u8 x0) := (blk_cell HR2.out.h3 0).trans rfl
      have c31 : Bq.cell? ⟨W.heap.size + 1 + 1 + 1, 1, none⟩ = some (.int .u8 x1) := (blk_cell HR2.out.h3 1).trans rfl
      have c32 : Bq.cell? ⟨W.heap.size + 1 + 1 + 1, 2, none⟩ = some (.int .u8 x2) := (blk_cell HR2.out.h3 2).trans rfl
      have c33 : Bq.cell? ⟨W.heap.size + 1 + 1 + 1, 3, none⟩ = some (.int .u8 x3) := (blk_cell HR2.out.h3 3).trans rfl
      have z0 : Bq.frozen? ⟨W.heap.size + 1 + 1, 0, none⟩ = false := blk_frozen HR2.out.h2 0
      have z1 : Bq.frozen? ⟨W.heap.size + 1 + 1, 1, none⟩ = false := blk_frozen HR2.out.h2 1
      have z2 : Bq.frozen? ⟨W.heap.size + 1 + 1, 2, none⟩ = false := blk_frozen HR2.out.h2 2
      have z3 : Bq.frozen? ⟨W.heap.size + 1 + 1, 3, none⟩ = false := blk_frozen HR2.out.h2 3
      go_wp2
      have hE := HR2.out.e
      have G2 := HR2.out.h2
      have le2 : W.heap.size ≤ W.heap.size + 1 + 1 := by omega
      refine Reg.post_open (fun w' => Ext W w' ∧ w'.heap[W.heap.size + 1 + 1]? = some (.cells #[.int .u8 x0, .int .u8 x1, .int .u8 x2, .int .u8 x3] 24 (0, 0))) ⟨(Below.setCell (Below.setCell (Below.setCell (Below.setCell hE le2 _) le2 _) le2 _) le2 _), (blk_set (blk_set (blk_set (blk_set G2 0 _) 1 _) 2 _) 3 _)⟩ (fun Bz hS => ?_)
      obtain ⟨hEz, Gz⟩ := hS
      have r0 : Bz.cell? ⟨W.heap.size + 1 + 1, 0, none⟩ = some (.int .u8 x0) := (blk_cell Gz 0).trans rfl
      have r1 : Bz.cell? ⟨W.heap.size + 1 + 1, 1, none⟩ = some (.int .u8 x1) := (blk_cell Gz 1).trans rfl
      have r2 : Bz.cell? ⟨W.heap.size + 1 + 1, 2, none⟩ = some (.int .u8 x2) := (blk_cell Gz 2).trans rfl
      have r3 : Bz.cell? ⟨W.heap.size + 1 + 1, 3, none⟩ = some (.int .u8 x3) := (blk_cell Gz 3).trans rfl
      refine bodyPost_ret (v := .tuple #[.agg #[.int .u8 x0, .int .u8 x1, .int .u8 x2, .int .u8 x3], .bool true]) (by simp [results, Try.results14, go_sem, r0, r1, r2, r3]) rfl ?_
      exact ⟨by have hv : mAcc a b (a0, a1, a2, a3) (b0, b1, b2, b3) 4 = (x0, x1, x2, x3) := HX.out; rw [hv]; rfl, hEz⟩
end Go.Proofs.Ytbhoijkamnaopaa.Tag
