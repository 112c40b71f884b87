/- What ir's value answers (its lines began as print.sh's). -/
import Derived.Test.YtefijnbhdjpfpaaDoorI2
namespace Go.Proofs.YtefijnbhdjpfpaaDoor.Ir
open Go.RowKit Go.Proofs.YtefijnbhdjpfpaaDoorW.PrintWords Go.Proofs.YtefijnbhdjpfpaaDoorW.PrintLast Go.Proofs.YtefijnbhdjpfpaaDoorW.PrintMore
attribute [local go_sem] max2_int min2_int max_two min_two max_three min_three max_four min_four   -- for this text's walks alone
set_option linter.unusedVariables false
set_option linter.unusedSimpArgs false
/-! ### ir_value: function 29 -/
mutual
def ir_value.j0 : Nat → Int → Bool → Int → Int → Int → Int → Int → Option (Bool)
  | 0, _, _, _, _, _, _, _ => none
  | k + 1, x4, x5, x119000, x119001, x119002, x119003, x119004 => if x5 = true then (some true) else (if x4 = 2 then (ir_value.j1 k x4 (x4 == 2) x119000 x119001 x119002 x119003 x119004) else (ir_value.j1 k x4 (x4 == 14) x119000 x119001 x119002 x119003 x119004))
def ir_value.j1 : Nat → Int → Bool → Int → Int → Int → Int → Int → Option (Bool)
  | 0, _, _, _, _, _, _, _ => none
  | k + 1, x4, x10, x119000, x119001, x119002, x119003, x119004 => if x10 = true then (some (decide (x119004 ≤ 31))) else (if x4 = 3 then (ir_value.j2 k x4 (x4 == 3) x119000 x119001 x119002 x119003 x119004) else (ir_value.j2 k x4 (x4 == 15) x119000 x119001 x119002 x119003 x119004))
def ir_value.j2 : Nat → Int → Bool → Int → Int → Int → Int → Int → Option (Bool)
  | 0, _, _, _, _, _, _, _ => none
  | k + 1, x4, x16, x119000, x119001, x119002, x119003, x119004 => if x16 = true then (if x119004 ≥ 1 then (some (decide (x119004 ≤ 31))) else (some false)) else (if x4 = 4 then (ir_value.j3 k x4 (x4 == 4) x119000 x119001 x119002 x119003 x119004) else (ir_value.j3 k x4 (x4 == 16) x119000 x119001 x119002 x119003 x119004))
def ir_value.j3 : Nat → Int → Bool → Int → Int → Int → Int → Int → Option (Bool)
  | 0, _, _, _, _, _, _, _ => none
  | k + 1, x4, x27, x119000, x119001, x119002, x119003, x119004 => if x27 = true then (some (decide (x119004 ≤ 17))) else (if x4 = 5 then (if x119004 ≤ 7 then (if x119004 = 2 then (some false) else (some (x119004 != 3))) else (some false)) else (if x4 = 6 then (ir_value.j4 k x4 (x4 == 6) x119000 x119001 x119002 x119003 x119004) else (ir_value.j4 k x4 (x4 == 17) x119000 x119001 x119002 x119003 x119004)))
def ir_value.j4 : Nat → Int → Bool → Int → Int → Int → Int → Int → Option (Bool)
  | 0, _, _, _, _, _, _, _ => none
  | k + 1, x4, x48, x119000, x119001, x119002, x119003, x119004 => if x48 = true then ((ir_sized.f x119004).bind fun t119 => (if t119 = true then (some true) else (if x119004 = 9 then (some true) else (some (x119004 == 10))))) else (if x4 = 7 then (ir_value.j5 k x4 (x4 == 7) x119000 x119001 x119002 x119003 x119004) else (ir_value.j5 k x4 (x4 == 18) x119000 x119001 x119002 x119003 x119004))
def ir_value.j5 : Nat → Int → Bool → Int → Int → Int → Int → Int → Option (Bool)
  | 0, _, _, _, _, _, _, _ => none
  | k + 1, x4, x64, x119000, x119001, x119002, x119003, x119004 => if x64 = true then ((ir_sized.f x119004).bind fun t120 => (some t120)) else (if x4 = 13 then (if x119004 = 2 then (some true) else (if x119004 = 5 then (some true) else (some (x119004 == 6)))) else (if x4 = 20 then (if x119004 ≥ 1 then (some (decide (x119004 ≤ 3))) else (some false)) else (some (x119004 == 0))))
end
def ir_value.f (k : Nat) (a0_0 : Int) (a0_1 : Int) (a0_2 : Int) (a0_3 : Int) (a0_4 : Int) : Option (Bool) := if a0_0 = 1 then (ir_value.j0 k a0_0 (a0_0 == 1) a0_0 a0_1 a0_2 a0_3 a0_4) else (if a0_0 = 8 then (ir_value.j0 k a0_0 (a0_0 == 8) a0_0 a0_1 a0_2 a0_3 a0_4) else (if a0_0 = 10 then (ir_value.j0 k a0_0 (a0_0 == 10) a0_0 a0_1 a0_2 a0_3 a0_4) else (ir_value.j0 k a0_0 (a0_0 == 12) a0_0 a0_1 a0_2 a0_3 a0_4)))
theorem ir_value.mono_l : ∀ k, (∀ y0 y1 y2 y3 y4 y5 y6, LeO (ir_value.j0 k y0 y1 y2 y3 y4 y5 y6) (ir_value.j0 (k + 1) y0 y1 y2 y3 y4 y5 y6)) ∧ (∀ y0 y1 y2 y3 y4 y5 y6, LeO (ir_value.j1 k y0 y1 y2 y3 y4 y5 y6) (ir_value.j1 (k + 1) y0 y1 y2 y3 y4 y5 y6)) ∧ (∀ y0 y1 y2 y3 y4 y5 y6, LeO (ir_value.j2 k y0 y1 y2 y3 y4 y5 y6) (ir_value.j2 (k + 1) y0 y1 y2 y3 y4 y5 y6)) ∧ (∀ y0 y1 y2 y3 y4 y5 y6, LeO (ir_value.j3 k y0 y1 y2 y3 y4 y5 y6) (ir_value.j3 (k + 1) y0 y1 y2 y3 y4 y5 y6)) ∧ (∀ y0 y1 y2 y3 y4 y5 y6, LeO (ir_value.j4 k y0 y1 y2 y3 y4 y5 y6) (ir_value.j4 (k + 1) y0 y1 y2 y3 y4 y5 y6)) ∧ (∀ y0 y1 y2 y3 y4 y5 y6, LeO (ir_value.j5 k y0 y1 y2 y3 y4 y5 y6) (ir_value.j5 (k + 1) y0 y1 y2 y3 y4 y5 y6))
  | 0 => ⟨fun _ _ _ _ _ _ _ r h => by simp [ir_value.j0] at h, fun _ _ _ _ _ _ _ r h => by simp [ir_value.j1] at h, fun _ _ _ _ _ _ _ r h => by simp [ir_value.j2] at h, fun _ _ _ _ _ _ _ r h => by simp [ir_value.j3] at h, fun _ _ _ _ _ _ _ r h => by simp [ir_value.j4] at h, fun _ _ _ _ _ _ _ r h => by simp [ir_value.j5] at h⟩
  | k + 1 => by
    obtain ⟨ih0, ih1, ih2, ih3, ih4, ih5⟩ := ir_value.mono_l k
    refine ⟨?_, ?_, ?_, ?_, ?_, ?_⟩
    · intro y0 y1 y2 y3 y4 y5 y6
      unfold ir_value.j0
      repeat' first
      | (with_reducible exact ih0 _ _ _ _ _ _ _)
      | (with_reducible exact ih1 _ _ _ _ _ _ _)
      | (with_reducible exact ih2 _ _ _ _ _ _ _)
      | (with_reducible exact ih3 _ _ _ _ _ _ _)
      | (with_reducible exact ih4 _ _ _ _ _ _ _)
      | (with_reducible exact ih5 _ _ _ _ _ _ _)
      | (with_reducible exact LeO.refl _)
      | (with_reducible exact LeO.none _)
      | (with_reducible refine LeO.ite ?_ ?_)
      | (with_reducible refine LeO.bind ?_ (fun _ => ?_))
      | exact ih0 _ _ _ _ _ _ _
      | exact ih1 _ _ _ _ _ _ _
      | exact ih2 _ _ _ _ _ _ _
      | exact ih3 _ _ _ _ _ _ _
      | exact ih4 _ _ _ _ _ _ _
      | exact ih5 _ _ _ _ _ _ _
      | exact LeO.none _
      | refine LeO.ite ?_ ?_
      | refine LeO.bind ?_ (fun _ => ?_)
    · intro y0 y1 y2 y3 y4 y5 y6
      unfold ir_value.j1
      repeat' first
      | (with_reducible exact ih0 _ _ _ _ _ _ _)
      | (with_reducible exact ih1 _ _ _ _ _ _ _)
      | (with_reducible exact ih2 _ _ _ _ _ _ _)
      | (with_reducible exact ih3 _ _ _ _ _ _ _)
      | (with_reducible exact ih4 _ _ _ _ _ _ _)
      | (with_reducible exact ih5 _ _ _ _ _ _ _)
      | (with_reducible exact LeO.refl _)
      | (with_reducible exact LeO.none _)
      | (with_reducible refine LeO.ite ?_ ?_)
      | (with_reducible refine LeO.bind ?_ (fun _ => ?_))
      | exact ih0 _ _ _ _ _ _ _
      | exact ih1 _ _ _ _ _ _ _
      | exact ih2 _ _ _ _ _ _ _
      | exact ih3 _ _ _ _ _ _ _
      | exact ih4 _ _ _ _ _ _ _
      | exact ih5 _ _ _ _ _ _ _
      | exact LeO.none _
      | refine LeO.ite ?_ ?_
      | refine LeO.bind ?_ (fun _ => ?_)
    · intro y0 y1 y2 y3 y4 y5 y6
      unfold ir_value.j2
      repeat' first
      | (with_reducible exact ih0 _ _ _ _ _ _ _)
      | (with_reducible exact ih1 _ _ _ _ _ _ _)
      | (with_reducible exact ih2 _ _ _ _ _ _ _)
      | (with_reducible exact ih3 _ _ _ _ _ _ _)
      | (with_reducible exact ih4 _ _ _ _ _ _ _)
      | (with_reducible exact ih5 _ _ _ _ _ _ _)
      | (with_reducible exact LeO.refl _)
      | (with_reducible exact LeO.none _)
      | (with_reducible refine LeO.ite ?_ ?_)
      | (with_reducible refine LeO.bind ?_ (fun _ => ?_))
      | exact ih0 _ _ _ _ _ _ _
      | exact ih1 _ _ _ _ _ _ _
      | exact ih2 _ _ _ _ _ _ _
      | exact ih3 _ _ _ _ _ _ _
      | exact ih4 _ _ _ _ _ _ _
      | exact ih5 _ _ _ _ _ _ _
      | exact LeO.none _
      | refine LeO.ite ?_ ?_
      | refine LeO.bind ?_ (fun _ => ?_)
    · intro y0 y1 y2 y3 y4 y5 y6
      unfold ir_value.j3
      repeat' first
      | (with_reducible exact ih0 _ _ _ _ _ _ _)
      | (with_reducible exact ih1 _ _ _ _ _ _ _)
      | (with_reducible exact ih2 _ _ _ _ _ _ _)
      | (with_reducible exact ih3 _ _ _ _ _ _ _)
      | (with_reducible exact ih4 _ _ _ _ _ _ _)
      | (with_reducible exact ih5 _ _ _ _ _ _ _)
      | (with_reducible exact LeO.refl _)
      | (with_reducible exact LeO.none _)
      | (with_reducible refine LeO.ite ?_ ?_)
      | (with_reducible refine LeO.bind ?_ (fun _ => ?_))
      | exact ih0 _ _ _ _ _ _ _
      | exact ih1 _ _ _ _ _ _ _
      | exact ih2 _ _ _ _ _ _ _
      | exact ih3 _ _ _ _ _ _ _
      | exact ih4 _ _ _ _ _ _ _
      | exact ih5 _ _ _ _ _ _ _
      | exact LeO.none _
      | refine LeO.ite ?_ ?_
      | refine LeO.bind ?_ (fun _ => ?_)
    · intro y0 y1 y2 y3 y4 y5 y6
      unfold ir_value.j4
      repeat' first
      | (with_reducible exact ih0 _ _ _ _ _ _ _)
      | (with_reducible exact ih1 _ _ _ _ _ _ _)
      | (with_reducible exact ih2 _ _ _ _ _ _ _)
      | (with_reducible exact ih3 _ _ _ _ _ _ _)
      | (with_reducible exact ih4 _ _ _ _ _ _ _)
      | (with_reducible exact ih5 _ _ _ _ _ _ _)
      | (with_reducible exact LeO.refl _)
      | (with_reducible exact LeO.none _)
      | (with_reducible refine LeO.ite ?_ ?_)
      | (with_reducible refine LeO.bind ?_ (fun _ => ?_))
      | exact ih0 _ _ _ _ _ _ _
      | exact ih1 _ _ _ _ _ _ _
      | exact ih2 _ _ _ _ _ _ _
      | exact ih3 _ _ _ _ _ _ _
      | exact ih4 _ _ _ _ _ _ _
      | exact ih5 _ _ _ _ _ _ _
      | exact LeO.none _
      | refine LeO.ite ?_ ?_
      | refine LeO.bind ?_ (fun _ => ?_)
    · intro y0 y1 y2 y3 y4 y5 y6
      unfold ir_value.j5
      repeat' first
      | (with_reducible exact ih0 _ _ _ _ _ _ _)
      | (with_reducible exact ih1 _ _ _ _ _ _ _)
      | (with_reducible exact ih2 _ _ _ _ _ _ _)
      | (with_reducible exact ih3 _ _ _ _ _ _ _)
      | (with_reducible exact ih4 _ _ _ _ _ _ _)
      | (with_reducible exact ih5 _ _ _ _ _ _ _)
      | (with_reducible exact LeO.refl _)
      | (with_reducible exact LeO.none _)
      | (with_reducible refine LeO.ite ?_ ?_)
      | (with_reducible refine LeO.bind ?_ (fun _ => ?_))
      | exact ih0 _ _ _ _ _ _ _
      | exact ih1 _ _ _ _ _ _ _
      | exact ih2 _ _ _ _ _ _ _
      | exact ih3 _ _ _ _ _ _ _
      | exact ih4 _ _ _ _ _ _ _
      | exact ih5 _ _ _ _ _ _ _
      | exact LeO.none _
      | refine LeO.ite ?_ ?_
      | refine LeO.bind ?_ (fun _ => ?_)
theorem ir_value.mono : ∀ a0 a1 a2 a3 a4 k, LeO (ir_value.f k a0 a1 a2 a3 a4) (ir_value.f (k + 1) a0 a1 a2 a3 a4) := by
  intro a0 a1 a2 a3 a4 k
  obtain ⟨ih0, ih1, ih2, ih3, ih4, ih5⟩ := ir_value.mono_l k
  unfold ir_value.f
  repeat' first
      | (with_reducible exact ih0 _ _ _ _ _ _ _)
      | (with_reducible exact ih1 _ _ _ _ _ _ _)
      | (with_reducible exact ih2 _ _ _ _ _ _ _)
      | (with_reducible exact ih3 _ _ _ _ _ _ _)
      | (with_reducible exact ih4 _ _ _ _ _ _ _)
      | (with_reducible exact ih5 _ _ _ _ _ _ _)
      | (with_reducible exact LeO.refl _)
      | (with_reducible exact LeO.none _)
      | (with_reducible refine LeO.ite ?_ ?_)
      | (with_reducible refine LeO.bind ?_ (fun _ => ?_))
      | exact ih0 _ _ _ _ _ _ _
      | exact ih1 _ _ _ _ _ _ _
      | exact ih2 _ _ _ _ _ _ _
      | exact ih3 _ _ _ _ _ _ _
      | exact ih4 _ _ _ _ _ _ _
      | exact ih5 _ _ _ _ _ _ _
      | exact LeO.none _
      | refine LeO.ite ?_ ?_
      | refine LeO.bind ?_ (fun _ => ?_)
set_option maxHeartbeats 8000000 in
set_option maxRecDepth 100000 in
theorem ir_value.calls (k : Nat) (a0_0 : Int) (a0_1 : Int) (a0_2 : Int) (a0_3 : Int) (a0_4 : Int) (r : Bool) (w : World) (h : ir_value.f k a0_0 a0_1 a0_2 a0_3 a0_4 = some r) :
    Calls Tryd.prog 29 #[.agg #[.int .i64 a0_0, .int .i64 a0_1, .int .i64 a0_2, .int .i64 a0_3, .int .u32 a0_4]] w fun e w' => e = .returned (.bool r) ∧ Below w.heap.size w w' := by
  have hu25 := Tryd.underlying25
  have HB := Aside0.mk (Below.refl w.heap.size w)
  have H : (if a0_0 = 1 then (ir_value.j0 k a0_0 (a0_0 == 1) a0_0 a0_1 a0_2 a0_3 a0_4) else (if a0_0 = 8 then (ir_value.j0 k a0_0 (a0_0 == 8) a0_0 a0_1 a0_2 a0_3 a0_4) else (if a0_0 = 10 then (ir_value.j0 k a0_0 (a0_0 == 10) a0_0 a0_1 a0_2 a0_3 a0_4) else (ir_value.j0 k a0_0 (a0_0 == 12) a0_0 a0_1 a0_2 a0_3 a0_4)))) = some r := h
  clear h
  have HC2 := Aside0.mk H
  clear H
  go_enter Tryd.func29, Tryd.ntmps29
  go_upto_if 5 with (first | ((with_reducible refine gate_dst (N := 1) rfl ?_); refine box_event ?hg (N := 1) ?hd (cs := #[.int .i64 a0_0, .int .i64 a0_1, .int .i64 a0_2, .int .i64 a0_3, .int .u32 a0_4]) (t := 25) ?hr ?_; (case hd => rfl); (case hg => rfl); (case hr => first | (go_simp; done) | (go_simp; rfl)); intro gb118 hg w3 hbox hb; have n0_ := Aside0.mk (below_step (by repeat (first | (with_reducible first | exact HB.out | apply below_alloc | apply pw_below_drewN | apply below_drew1) | exact HB.out)) hb); have n1_ := Aside0.mk (hbox); have n2_ := Aside0.mk ((by rw [hg]; exact (below_size (by repeat (first | (with_reducible first | exact HB.out | apply below_alloc | apply pw_below_drewN | apply below_drew1) | exact HB.out))) : w.heap.size ≤ gb118)); have n3_ := Aside0.mk ((by rw [hg]; exact (below_size (by repeat (first | (with_reducible first | exact HB.out | apply below_alloc | apply pw_below_drewN | apply below_drew1) | exact HB.out))) : w.heap.size ≤ gb118)); clear HB; have HB := n0_; have BK118 := n1_; have GW118 := n2_; have GE118 := n3_; clear n0_ n1_ n2_ n3_; clear hb hbox hg; have hcz4_0 : w3.cell? ⟨gb118, 0, none⟩ = some (.int .i64 a0_0) := (blk_cell BK118.out 0).trans rfl; have hcz4_1 : w3.cell? ⟨gb118, 1, none⟩ = some (.int .i64 a0_1) := (blk_cell BK118.out 1).trans rfl; have hcz4_2 : w3.cell? ⟨gb118, 2, none⟩ = some (.int .i64 a0_2) := (blk_cell BK118.out 2).trans rfl; have hcz4_3 : w3.cell? ⟨gb118, 3, none⟩ = some (.int .i64 a0_3) := (blk_cell BK118.out 3).trans rfl; have hcz4_4 : w3.cell? ⟨gb118, 4, none⟩ = some (.int .u32 a0_4) := (blk_cell BK118.out 4).trans rfl; have hfz4_0 := blk_frozen BK118.out 0; have hfz4_1 := blk_frozen BK118.out 1; have hfz4_2 := blk_frozen BK118.out 2; have hfz4_3 := blk_frozen BK118.out 3; have hfz4_4 := blk_frozen BK118.out 4))
  (try simp only [Act.put, List.setIfInBounds_toArray, List.set_cons_zero, List.set_cons_succ])
  go_cut [5] (fun v5 wc => ∃ (kq : Nat) (x5_1 : Bool), v5 = .bool x5_1 ∧ Aside0 (ir_value.j0 kq a0_0 x5_1 a0_0 a0_1 a0_2 a0_3 a0_4 = some r) ∧ Aside0 (kq ≤ k) ∧ Aside0 (wc.heap[gb118]? = some (.cells #[.int .i64 a0_0, .int .i64 a0_1, .int .i64 a0_2, .int .i64 a0_3, .int .u32 a0_4] 25 (0, 0))) ∧ Aside0 (Below w.heap.size w wc))
  case first =>
    have H := HC2.out
    clear HC2
    by_cases c5 : a0_0 = 1
    · rw [if_pos c5] at H
      have c5b0 : (a0_0 == 1) = true := beq_iff_eq.mpr c5
      have c5b1 : (a0_0 != 1) = false := bne_eq_false_iff_eq.mpr c5
      clear c5
      (first | rw [c5b0] | (simp only [i64_w, i32_w]; rw [c5b0]) | skip)
      have H' := Aside0.mk H
      clear H
      go_wp2
      go_meet
      case rel => exact ⟨_, ((a0_0 == 1)), (by first | rfl | (simp; done) | (simp [*]; done)), H', ⟨by first | omega | exact Nat.le_refl _⟩, ⟨by (with_reducible repeat (first | refine blk_drewN ?_ _ | refine blk_drew ?_ | refine blk_alloc ?_ _)); exact BK118.out⟩, ⟨by repeat (first | (with_reducible first | exact HB.out | apply below_alloc | apply pw_below_drewN | apply below_drew1 | refine below_set ?_ GE118.out) | exact HB.out)⟩⟩
    · rw [if_neg c5] at H
      have c5b0 : (a0_0 == 1) = false := beq_eq_false_iff_ne.mpr c5
      have c5b1 : (a0_0 != 1) = true := bne_iff_ne.mpr c5
      (first | rw [c5b0] | (simp only [i64_w, i32_w]; rw [c5b0]) | skip)
      by_cases c6 : a0_0 = 8
      · rw [if_pos c6] at H
        have c6b0 : (a0_0 == 8) = true := beq_iff_eq.mpr c6
        have c6b1 : (a0_0 != 8) = false := bne_eq_false_iff_eq.mpr c6
        clear c6
        have H' := Aside0.mk H
        clear H
        go_wp2
        go_meet
        case rel => exact ⟨_, ((a0_0 == 8)), (by first | rfl | (simp; done) | (simp [*]; done)), H', ⟨by first | omega | exact Nat.le_refl _⟩, ⟨by (with_reducible repeat (first | refine blk_drewN ?_ _ | refine blk_drew ?_ | refine blk_alloc ?_ _)); exact BK118.out⟩, ⟨by repeat (first | (with_reducible first | exact HB.out | apply below_alloc | apply pw_below_drewN | apply below_drew1 | refine below_set ?_ GE118.out) | exact HB.out)⟩⟩
      · rw [if_neg c6] at H
        have c6b0 : (a0_0 == 8) = false := beq_eq_false_iff_ne.mpr c6
        have c6b1 : (a0_0 != 8) = true := bne_iff_ne.mpr c6
        by_cases c7 : a0_0 = 10
        · rw [if_pos c7] at H
          have c7b0 : (a0_0 == 10) = true := beq_iff_eq.mpr c7
          have c7b1 : (a0_0 != 10) = false := bne_eq_false_iff_eq.mpr c7
          clear c7
          have H' := Aside0.mk H
          clear H
          go_wp2
          go_meet
          case rel => exact ⟨_, ((a0_0 == 10)), (by first | rfl | (simp; done) | (simp [*]; done)), H', ⟨by first | omega | exact Nat.le_refl _⟩, ⟨by (with_reducible repeat (first | refine blk_drewN ?_ _ | refine blk_drew ?_ | refine blk_alloc ?_ _)); exact BK118.out⟩, ⟨by repeat (first | (with_reducible first | exact HB.out | apply below_alloc | apply pw_below_drewN | apply below_drew1 | refine below_set ?_ GE118.out) | exact HB.out)⟩⟩
        · rw [if_neg c7] at H
          have c7b0 : (a0_0 == 10) = false := beq_eq_false_iff_ne.mpr c7
          have c7b1 : (a0_0 != 10) = true := bne_iff_ne.mpr c7
          have H' := Aside0.mk H
          clear H
          go_wp2
          go_meet
          case rel => exact ⟨_, ((a0_0 == 12)), (by first | rfl | (simp; done) | (simp [*]; done)), H', ⟨by first | omega | exact Nat.le_refl _⟩, ⟨by (with_reducible repeat (first | refine blk_drewN ?_ _ | refine blk_drew ?_ | refine blk_alloc ?_ _)); exact BK118.out⟩, ⟨by repeat (first | (with_reducible first | exact HB.out | apply below_alloc | apply pw_below_drewN | apply below_drew1 | refine below_set ?_ GE118.out) | exact HB.out)⟩⟩
  case rest =>
    clear HC2
    try clear c2
    try clear p2
    try clear c5
    try clear c5b0
    try clear c5b1
    try clear c6
    try clear c6b0
    try clear c6b1
    try clear c7
    try clear c7b0
    try clear c7b1
    try clear hcz4_0
    try clear hcz4_1
    try clear hcz4_2
    try clear hcz4_3
    try clear hcz4_4
    try clear hfz4_0
    try clear hfz4_1
    try clear hfz4_2
    try clear hfz4_3
    try clear hfz4_4
    obtain ⟨kq, x5_1, rfl, HA, HJ1, BK118, HB⟩ := hcut
    cases kq with
    | zero => exact absurd HA.out (by simp [ir_value.j0])
    | succ kj1 =>
      have H := HA.out
      clear HA
      simp only [ir_value.j0] at H
      by_cases c8 : x5_1 = true
      · subst c8
        have H1 : (some true) = some r := by rw [if_pos rfl] at H; exact H
        clear H
        have H := H1
        clear H1
        obtain rfl := Option.some.inj H
        go_wp2
        go_ret
        exact ⟨by first | rfl | (simp [errW_none, errW_some] <;> rfl) | (simp [*, errW_none, errW_some] <;> rfl), by repeat (first | (with_reducible first | exact HB.out | apply below_alloc | apply pw_below_drewN | apply below_drew1 | refine below_set ?_ GE118.out) | exact HB.out)⟩
      · replace c8 := Bool.eq_false_iff.mpr c8
        subst c8
        have H1 : (if a0_0 = 2 then (ir_value.j1 kj1 a0_0 (a0_0 == 2) a0_0 a0_1 a0_2 a0_3 a0_4) else (ir_value.j1 kj1 a0_0 (a0_0 == 14) a0_0 a0_1 a0_2 a0_3 a0_4)) = some r := by rw [if_neg (show ¬ (false = true) by decide)] at H; exact H
        clear H
        have H := H1
        clear H1
        have HC9 := Aside0.mk H
        clear H
        go_upto_if 10 with (fail)
        go_cut [10] (fun v10 wc => ∃ (kq : Nat) (x10_8 : Bool), v10 = .bool x10_8 ∧ Aside0 (ir_value.j1 kq a0_0 x10_8 a0_0 a0_1 a0_2 a0_3 a0_4 = some r) ∧ Aside0 (kq ≤ kj1) ∧ Aside0 (wc.heap[gb118]? = some (.cells #[.int .i64 a0_0, .int .i64 a0_1, .int .i64 a0_2, .int .i64 a0_3, .int .u32 a0_4] 25 (0, 0))) ∧ Aside0 (Below w.heap.size w wc))
        case first =>
          have H := HC9.out
          clear HC9
          by_cases c10 : a0_0 = 2
          · rw [if_pos c10] at H
            have c10b0 : (a0_0 == 2) = true := beq_iff_eq.mpr c10
            have c10b1 : (a0_0 != 2) = false := bne_eq_false_iff_eq.mpr c10
            clear c10
            (first | rw [c10b0] | (simp only [i64_w, i32_w]; rw [c10b0]) | skip)
            have H' := Aside0.mk H
            clear H
            go_wp2
            go_meet
            case rel => exact ⟨_, ((a0_0 == 2)), (by first | rfl | (simp; done) | (simp [*]; done)), H', ⟨by have := HJ1.out; first | omega | exact Nat.le_refl _⟩, ⟨by (with_reducible repeat (first | refine blk_drewN ?_ _ | refine blk_drew ?_ | refine blk_alloc ?_ _)); exact BK118.out⟩, ⟨by repeat (first | (with_reducible first | exact HB.out | apply below_alloc | apply pw_below_drewN | apply below_drew1 | refine below_set ?_ GE118.out) | exact HB.out)⟩⟩
          · rw [if_neg c10] at H
            have c10b0 : (a0_0 == 2) = false := beq_eq_false_iff_ne.mpr c10
            have c10b1 : (a0_0 != 2) = true := bne_iff_ne.mpr c10
            (first | rw [c10b0] | (simp only [i64_w, i32_w]; rw [c10b0]) | skip)
            have H' := Aside0.mk H
            clear H
            go_wp2
            go_meet
            case rel => exact ⟨_, ((a0_0 == 14)), (by first | rfl | (simp; done) | (simp [*]; done)), H', ⟨by have := HJ1.out; first | omega | exact Nat.le_refl _⟩, ⟨by (with_reducible repeat (first | refine blk_drewN ?_ _ | refine blk_drew ?_ | refine blk_alloc ?_ _)); exact BK118.out⟩, ⟨by repeat (first | (with_reducible first | exact HB.out | apply below_alloc | apply pw_below_drewN | apply below_drew1 | refine below_set ?_ GE118.out) | exact HB.out)⟩⟩
        case rest =>
          clear HC9
          try clear c1
          try clear c2
          try clear p2
          try clear c5
          try clear c5b0
          try clear c5b1
          try clear c6
          try clear c6b0
          try clear c6b1
          try clear c7
          try clear c7b0
          try clear c7b1
          try clear c8
          try clear c10
          try clear c10b0
          try clear c10b1
          try clear hcz4_0
          try clear hcz4_1
          try clear hcz4_2
          try clear hcz4_3
          try clear hcz4_4
          try clear hfz4_0
          try clear hfz4_1
          try clear hfz4_2
          try clear hfz4_3
          try clear hfz4_4
          try clear p2
          obtain ⟨kq, x10_8, rfl, HA, HJ8, BK118, HB⟩ := hcut
          cases kq with
          | zero => exact absurd HA.out (by simp [ir_value.j1])
          | succ kj8 =>
            have H := HA.out
            clear HA
            simp only [ir_value.j1] at H
            by_cases c11 : x10_8 = true
            · subst c11
              have H1 : (some (decide (a0_4 ≤ 31))) = some r := by rw [if_pos rfl] at H; exact H
              clear H
              have H := H1
              clear H1
              obtain rfl := Option.some.inj H
              have hcz12_0 : wc.cell? ⟨gb118, 0, none⟩ = some (.int .i64 a0_0) := (blk_cell BK118.out 0).trans rfl
              have hcz12_1 : wc.cell? ⟨gb118, 1, none⟩ = some (.int .i64 a0_1) := (blk_cell BK118.out 1).trans rfl
              have hcz12_2 : wc.cell? ⟨gb118, 2, none⟩ = some (.int .i64 a0_2) := (blk_cell BK118.out 2).trans rfl
              have hcz12_3 : wc.cell? ⟨gb118, 3, none⟩ = some (.int .i64 a0_3) := (blk_cell BK118.out 3).trans rfl
              have hcz12_4 : wc.cell? ⟨gb118, 4, none⟩ = some (.int .u32 a0_4) := (blk_cell BK118.out 4).trans rfl
              have hfz12_0 := blk_frozen BK118.out 0
              have hfz12_1 := blk_frozen BK118.out 1
              have hfz12_2 := blk_frozen BK118.out 2
              have hfz12_3 := blk_frozen BK118.out 3
              have hfz12_4 := blk_frozen BK118.out 4
              go_wp2
              go_ret
              exact ⟨by first | rfl | (simp [errW_none, errW_some] <;> rfl) | (simp [*, errW_none, errW_some] <;> rfl), by repeat (first | (with_reducible first | exact HB.out | apply below_alloc | apply pw_below_drewN | apply below_drew1 | refine below_set ?_ GE118.out) | exact HB.out)⟩
            · replace c11 := Bool.eq_false_iff.mpr c11
              subst c11
              have H1 : (if a0_0 = 3 then (ir_value.j2 kj8 a0_0 (a0_0 == 3) a0_0 a0_1 a0_2 a0_3 a0_4) else (ir_value.j2 kj8 a0_0 (a0_0 == 15) a0_0 a0_1 a0_2 a0_3 a0_4)) = some r := by rw [if_neg (show ¬ (false = true) by decide)] at H; exact H
              clear H
              have H := H1
              clear H1
              have HC13 := Aside0.mk H
              clear H
              go_upto_if 16 with (fail)
              go_cut [16] (fun v16 wc => ∃ (kq : Nat) (x16_12 : Bool), v16 = .bool x16_12 ∧ Aside0 (ir_value.j2 kq a0_0 x16_12 a0_0 a0_1 a0_2 a0_3 a0_4 = some r) ∧ Aside0 (kq ≤ kj8) ∧ Aside0 (wc.heap[gb118]? = some (.cells #[.int .i64 a0_0, .int .i64 a0_1, .int .i64 a0_2, .int .i64 a0_3, .int .u32 a0_4] 25 (0, 0))) ∧ Aside0 (Below w.heap.size w wc))
              case first =>
                have H := HC13.out
                clear HC13
                by_cases c14 : a0_0 = 3
                · rw [if_pos c14] at H
                  have c14b0 : (a0_0 == 3) = true := beq_iff_eq.mpr c14
                  have c14b1 : (a0_0 != 3) = false := bne_eq_false_iff_eq.mpr c14
                  clear c14
                  (first | rw [c14b0] | (simp only [i64_w, i32_w]; rw [c14b0]) | skip)
                  have H' := Aside0.mk H
                  clear H
                  go_wp2
                  go_meet
                  case rel => exact ⟨_, ((a0_0 == 3)), (by first | rfl | (simp; done) | (simp [*]; done)), H', ⟨by have := HJ1.out; have := HJ8.out; first | omega | exact Nat.le_refl _⟩, ⟨by (with_reducible repeat (first | refine blk_drewN ?_ _ | refine blk_drew ?_ | refine blk_alloc ?_ _)); exact BK118.out⟩, ⟨by repeat (first | (with_reducible first | exact HB.out | apply below_alloc | apply pw_below_drewN | apply below_drew1 | refine below_set ?_ GE118.out) | exact HB.out)⟩⟩
                · rw [if_neg c14] at H
                  have c14b0 : (a0_0 == 3) = false := beq_eq_false_iff_ne.mpr c14
                  have c14b1 : (a0_0 != 3) = true := bne_iff_ne.mpr c14
                  (first | rw [c14b0] | (simp only [i64_w, i32_w]; rw [c14b0]) | skip)
                  have H' := Aside0.mk H
                  clear H
                  go_wp2
                  go_meet
                  case rel => exact ⟨_, ((a0_0 == 15)), (by first | rfl | (simp; done) | (simp [*]; done)), H', ⟨by have := HJ1.out; have := HJ8.out; first | omega | exact Nat.le_refl _⟩, ⟨by (with_reducible repeat (first | refine blk_drewN ?_ _ | refine blk_drew ?_ | refine blk_alloc ?_ _)); exact BK118.out⟩, ⟨by repeat (first | (with_reducible first | exact HB.out | apply below_alloc | apply pw_below_drewN | apply below_drew1 | refine below_set ?_ GE118.out) | exact HB.out)⟩⟩
              case rest =>
                clear HC13
                try clear c1
                try clear c2
                try clear p2
                try clear c5
                try clear c5b0
                try clear c5b1
                try clear c6
                try clear c6b0
                try clear c6b1
                try clear c7
                try clear c7b0
                try clear c7b1
                try clear c8
                try clear c10
                try clear c10b0
                try clear c10b1
                try clear c11
                try clear c14
                try clear c14b0
                try clear c14b1
                try clear hcz12_0
                try clear hcz12_1
                try clear hcz12_2
                try clear hcz12_3
                try clear hcz12_4
                try clear hcz4_0
                try clear hcz4_1
                try clear hcz4_2
                try clear hcz4_3
                try clear hcz4_4
                try clear hfz12_0
                try clear hfz12_1
                try clear hfz12_2
                try clear hfz12_3
                try clear hfz12_4
                try clear hfz4_0
                try clear hfz4_1
                try clear hfz4_2
                try clear hfz4_3
                try clear hfz4_4
                try clear p2
                obtain ⟨kq, x16_12, rfl, HA, HJ12, BK118, HB⟩ := hcut
                cases kq with
                | zero => exact absurd HA.out (by simp [ir_value.j2])
                | succ kj12 =>
                  have H := HA.out
                  clear HA
                  simp only [ir_value.j2] at H
                  by_cases c15 : x16_12 = true
                  · subst c15
                    have H1 : (if a0_4 ≥ 1 then (some (decide (a0_4 ≤ 31))) else (some false)) = some r := by rw [if_pos rfl] at H; exact H
                    clear H
                    have H := H1
                    clear H1
                    by_cases c16 : a0_4 ≥ 1
                    · rw [if_pos c16] at H
                      have c16b0 : decide (1 ≤ a0_4) = true := decide_eq_true c16
                      clear c16
                      obtain rfl := Option.some.inj H
                      have hcz17_0 : wc.cell? ⟨gb118, 0, none⟩ = some (.int .i64 a0_0) := (blk_cell BK118.out 0).trans rfl
                      have hcz17_1 : wc.cell? ⟨gb118, 1, none⟩ = some (.int .i64 a0_1) := (blk_cell BK118.out 1).trans rfl
                      have hcz17_2 : wc.cell? ⟨gb118, 2, none⟩ = some (.int .i64 a0_2) := (blk_cell BK118.out 2).trans rfl
                      have hcz17_3 : wc.cell? ⟨gb118, 3, none⟩ = some (.int .i64 a0_3) := (blk_cell BK118.out 3).trans rfl
                      have hcz17_4 : wc.cell? ⟨gb118, 4, none⟩ = some (.int .u32 a0_4) := (blk_cell BK118.out 4).trans rfl
                      have hfz17_0 := blk_frozen BK118.out 0
                      have hfz17_1 := blk_frozen BK118.out 1
                      have hfz17_2 := blk_frozen BK118.out 2
                      have hfz17_3 := blk_frozen BK118.out 3
                      have hfz17_4 := blk_frozen BK118.out 4
                      go_wp2
                      go_ret
                      exact ⟨by first | rfl | (simp [errW_none, errW_some] <;> rfl) | (simp [*, errW_none, errW_some] <;> rfl), by repeat (first | (with_reducible first | exact HB.out | apply below_alloc | apply pw_below_drewN | apply below_drew1 | refine below_set ?_ GE118.out) | exact HB.out)⟩
                    · rw [if_neg c16] at H
                      have c16b0 : decide (1 ≤ a0_4) = false := decide_eq_false c16
                      clear c16
                      obtain rfl := Option.some.inj H
                      have hcz18_0 : wc.cell? ⟨gb118, 0, none⟩ = some (.int .i64 a0_0) := (blk_cell BK118.out 0).trans rfl
                      have hcz18_1 : wc.cell? ⟨gb118, 1, none⟩ = some (.int .i64 a0_1) := (blk_cell BK118.out 1).trans rfl
                      have hcz18_2 : wc.cell? ⟨gb118, 2, none⟩ = some (.int .i64 a0_2) := (blk_cell BK118.out 2).trans rfl
                      have hcz18_3 : wc.cell? ⟨gb118, 3, none⟩ = some (.int .i64 a0_3) := (blk_cell BK118.out 3).trans rfl
                      have hcz18_4 : wc.cell? ⟨gb118, 4, none⟩ = some (.int .u32 a0_4) := (blk_cell BK118.out 4).trans rfl
                      have hfz18_0 := blk_frozen BK118.out 0
                      have hfz18_1 := blk_frozen BK118.out 1
                      have hfz18_2 := blk_frozen BK118.out 2
                      have hfz18_3 := blk_frozen BK118.out 3
                      have hfz18_4 := blk_frozen BK118.out 4
                      go_wp2
                      go_ret
                      exact ⟨by first | rfl | (simp [errW_none, errW_some] <;> rfl) | (simp [*, errW_none, errW_some] <;> rfl), by repeat (first | (with_reducible first | exact HB.out | apply below_alloc | apply pw_below_drewN | apply below_drew1 | refine below_set ?_ GE118.out) | exact HB.out)⟩
                  · replace c15 := Bool.eq_false_iff.mpr c15
                    subst c15
                    have H1 : (if a0_0 = 4 then (ir_value.j3 kj12 a0_0 (a0_0 == 4) a0_0 a0_1 a0_2 a0_3 a0_4) else (ir_value.j3 kj12 a0_0 (a0_0 == 16) a0_0 a0_1 a0_2 a0_3 a0_4)) = some r := by rw [if_neg (show ¬ (false = true) by decide)] at H; exact H
                    clear H
                    have H := H1
                    clear H1
                    have HC19 := Aside0.mk H
                    clear H
                    go_upto_if 27 with (fail)
                    go_cut [27] (fun v27 wc => ∃ (kq : Nat) (x27_18 : Bool), v27 = .bool x27_18 ∧ Aside0 (ir_value.j3 kq a0_0 x27_18 a0_0 a0_1 a0_2 a0_3 a0_4 = some r) ∧ Aside0 (kq ≤ kj12) ∧ Aside0 (wc.heap[gb118]? = some (.cells #[.int .i64 a0_0, .int .i64 a0_1, .int .i64 a0_2, .int .i64 a0_3, .int .u32 a0_4] 25 (0, 0))) ∧ Aside0 (Below w.heap.size w wc))
                    case first =>
                      have H := HC19.out
                      clear HC19
                      by_cases c20 : a0_0 = 4
                      · rw [if_pos c20] at H
                        have c20b0 : (a0_0 == 4) = true := beq_iff_eq.mpr c20
                        have c20b1 : (a0_0 != 4) = false := bne_eq_false_iff_eq.mpr c20
                        clear c20
                        (first | rw [c20b0] | (simp only [i64_w, i32_w]; rw [c20b0]) | skip)
                        have H' := Aside0.mk H
                        clear H
                        go_wp2
                        go_meet
                        case rel => exact ⟨_, ((a0_0 == 4)), (by first | rfl | (simp; done) | (simp [*]; done)), H', ⟨by have := HJ1.out; have := HJ8.out; have := HJ12.out; first | omega | exact Nat.le_refl _⟩, ⟨by (with_reducible repeat (first | refine blk_drewN ?_ _ | refine blk_drew ?_ | refine blk_alloc ?_ _)); exact BK118.out⟩, ⟨by repeat (first | (with_reducible first | exact HB.out | apply below_alloc | apply pw_below_drewN | apply below_drew1 | refine below_set ?_ GE118.out) | exact HB.out)⟩⟩
                      · rw [if_neg c20] at H
                        have c20b0 : (a0_0 == 4) = false := beq_eq_false_iff_ne.mpr c20
                        have c20b1 : (a0_0 != 4) = true := bne_iff_ne.mpr c20
                        (first | rw [c20b0] | (simp only [i64_w, i32_w]; rw [c20b0]) | skip)
                        have H' := Aside0.mk H
                        clear H
                        go_wp2
                        go_meet
                        case rel => exact ⟨_, ((a0_0 == 16)), (by first | rfl | (simp; done) | (simp [*]; done)), H', ⟨by have := HJ1.out; have := HJ8.out; have := HJ12.out; first | omega | exact Nat.le_refl _⟩, ⟨by (with_reducible repeat (first | refine blk_drewN ?_ _ | refine blk_drew ?_ | refine blk_alloc ?_ _)); exact BK118.out⟩, ⟨by repeat (first | (with_reducible first | exact HB.out | apply below_alloc | apply pw_below_drewN | apply below_drew1 | refine below_set ?_ GE118.out) | exact HB.out)⟩⟩
                    case rest =>
                      clear HC19
                      try clear c1
                      try clear c2
                      try clear p2
                      try clear c5
                      try clear c5b0
                      try clear c5b1
                      try clear c6
                      try clear c6b0
                      try clear c6b1
                      try clear c7
                      try clear c7b0
                      try clear c7b1
                      try clear c8
                      try clear c10
                      try clear c10b0
                      try clear c10b1
                      try clear c11
                      try clear c14
                      try clear c14b0
                      try clear c14b1
                      try clear c15
                      try clear c16
                      try clear c16b0
                      try clear c20
                      try clear c20b0
                      try clear c20b1
                      try clear hcz12_0
                      try clear hcz12_1
                      try clear hcz12_2
                      try clear hcz12_3
                      try clear hcz12_4
                      try clear hcz17_0
                      try clear hcz17_1
                      try clear hcz17_2
                      try clear hcz17_3
                      try clear hcz17_4
                      try clear hcz18_0
                      try clear hcz18_1
                      try clear hcz18_2
                      try clear hcz18_3
                      try clear hcz18_4
                      try clear hcz4_0
                      try clear hcz4_1
                      try clear hcz4_2
                      try clear hcz4_3
                      try clear hcz4_4
                      try clear hfz12_0
                      try clear hfz12_1
                      try clear hfz12_2
                      try clear hfz12_3
                      try clear hfz12_4
                      try clear hfz17_0
                      try clear hfz17_1
                      try clear hfz17_2
                      try clear hfz17_3
                      try clear hfz17_4
                      try clear hfz18_0
                      try clear hfz18_1
                      try clear hfz18_2
                      try clear hfz18_3
                      try clear hfz18_4
                      try clear hfz4_0
                      try clear hfz4_1
                      try clear hfz4_2
                      try clear hfz4_3
                      try clear hfz4_4
                      try clear p2
                      obtain ⟨kq, x27_18, rfl, HA, HJ18, BK118, HB⟩ := hcut
                      cases kq with
                      | zero => exact absurd HA.out (by simp [ir_value.j3])
                      | succ kj18 =>
                        have H := HA.out
                        clear HA
                        simp only [ir_value.j3] at H
                        by_cases c21 : x27_18 = true
                        · subst c21
                          have H1 : (some (decide (a0_4 ≤ 17))) = some r := by rw [if_pos rfl] at H; exact H
                          clear H
                          have H := H1
                          clear H1
                          obtain rfl := Option.some.inj H
                          have hcz22_0 : wc.cell? ⟨gb118, 0, none⟩ = some (.int .i64 a0_0) := (blk_cell BK118.out 0).trans rfl
                          have hcz22_1 : wc.cell? ⟨gb118, 1, none⟩ = some (.int .i64 a0_1) := (blk_cell BK118.out 1).trans rfl
                          have hcz22_2 : wc.cell? ⟨gb118, 2, none⟩ = some (.int .i64 a0_2) := (blk_cell BK118.out 2).trans rfl
                          have hcz22_3 : wc.cell? ⟨gb118, 3, none⟩ = some (.int .i64 a0_3) := (blk_cell BK118.out 3).trans rfl
                          have hcz22_4 : wc.cell? ⟨gb118, 4, none⟩ = some (.int .u32 a0_4) := (blk_cell BK118.out 4).trans rfl
                          have hfz22_0 := blk_frozen BK118.out 0
                          have hfz22_1 := blk_frozen BK118.out 1
                          have hfz22_2 := blk_frozen BK118.out 2
                          have hfz22_3 := blk_frozen BK118.out 3
                          have hfz22_4 := blk_frozen BK118.out 4
                          go_wp2
                          go_ret
                          exact ⟨by first | rfl | (simp [errW_none, errW_some] <;> rfl) | (simp [*, errW_none, errW_some] <;> rfl), by repeat (first | (with_reducible first | exact HB.out | apply below_alloc | apply pw_below_drewN | apply below_drew1 | refine below_set ?_ GE118.out) | exact HB.out)⟩
                        · replace c21 := Bool.eq_false_iff.mpr c21
                          subst c21
                          have H1 : (if a0_0 = 5 then (if a0_4 ≤ 7 then (if a0_4 = 2 then (some false) else (some (a0_4 != 3))) else (some false)) else (if a0_0 = 6 then (ir_value.j4 kj18 a0_0 (a0_0 == 6) a0_0 a0_1 a0_2 a0_3 a0_4) else (ir_value.j4 kj18 a0_0 (a0_0 == 17) a0_0 a0_1 a0_2 a0_3 a0_4))) = some r := by rw [if_neg (show ¬ (false = true) by decide)] at H; exact H
                          clear H
                          have H := H1
                          clear H1
                          by_cases c23 : a0_0 = 5
                          · rw [if_pos c23] at H
                            have c23b0 : (a0_0 == 5) = true := beq_iff_eq.mpr c23
                            have c23b1 : (a0_0 != 5) = false := bne_eq_false_iff_eq.mpr c23
                            clear c23
                            by_cases c24 : a0_4 ≤ 7
                            · rw [if_pos c24] at H
                              have c24b0 : decide (a0_4 ≤ 7) = true := decide_eq_true c24
                              clear c24
                              by_cases c25 : a0_4 = 2
                              · rw [if_pos c25] at H
                                have c25b0 : (a0_4 == 2) = true := beq_iff_eq.mpr c25
                                have c25b1 : (a0_4 != 2) = false := bne_eq_false_iff_eq.mpr c25
                                clear c25
                                obtain rfl := Option.some.inj H
                                have hcz26_0 : wc.cell? ⟨gb118, 0, none⟩ = some (.int .i64 a0_0) := (blk_cell BK118.out 0).trans rfl
                                have hcz26_1 : wc.cell? ⟨gb118, 1, none⟩ = some (.int .i64 a0_1) := (blk_cell BK118.out 1).trans rfl
                                have hcz26_2 : wc.cell? ⟨gb118, 2, none⟩ = some (.int .i64 a0_2) := (blk_cell BK118.out 2).trans rfl
                                have hcz26_3 : wc.cell? ⟨gb118, 3, none⟩ = some (.int .i64 a0_3) := (blk_cell BK118.out 3).trans rfl
                                have hcz26_4 : wc.cell? ⟨gb118, 4, none⟩ = some (.int .u32 a0_4) := (blk_cell BK118.out 4).trans rfl
                                have hfz26_0 := blk_frozen BK118.out 0
                                have hfz26_1 := blk_frozen BK118.out 1
                                have hfz26_2 := blk_frozen BK118.out 2
                                have hfz26_3 := blk_frozen BK118.out 3
                                have hfz26_4 := blk_frozen BK118.out 4
                                go_wp2
                                go_ret
                                exact ⟨by first | rfl | (simp [errW_none, errW_some] <;> rfl) | (simp [*, errW_none, errW_some] <;> rfl), by repeat (first | (with_reducible first | exact HB.out | apply below_alloc | apply pw_below_drewN | apply below_drew1 | refine below_set ?_ GE118.out) | exact HB.out)⟩
                              · rw [if_neg c25] at H
                                have c25b0 : (a0_4 == 2) = false := beq_eq_false_iff_ne.mpr c25
                                have c25b1 : (a0_4 != 2) = true := bne_iff_ne.mpr c25
                                obtain rfl := Option.some.inj H
                                have hcz27_0 : wc.cell? ⟨gb118, 0, none⟩ = some (.int .i64 a0_0) := (blk_cell BK118.out 0).trans rfl
                                have hcz27_1 : wc.cell? ⟨gb118, 1, none⟩ = some (.int .i64 a0_1) := (blk_cell BK118.out 1).trans rfl
                                have hcz27_2 : wc.cell? ⟨gb118, 2, none⟩ = some (.int .i64 a0_2) := (blk_cell BK118.out 2).trans rfl
                                have hcz27_3 : wc.cell? ⟨gb118, 3, none⟩ = some (.int .i64 a0_3) := (blk_cell BK118.out 3).trans rfl
                                have hcz27_4 : wc.cell? ⟨gb118, 4, none⟩ = some (.int .u32 a0_4) := (blk_cell BK118.out 4).trans rfl
                                have hfz27_0 := blk_frozen BK118.out 0
                                have hfz27_1 := blk_frozen BK118.out 1
                                have hfz27_2 := blk_frozen BK118.out 2
                                have hfz27_3 := blk_frozen BK118.out 3
                                have hfz27_4 := blk_frozen BK118.out 4
                                go_wp2
                                go_ret
                                exact ⟨by first | rfl | (simp [errW_none, errW_some] <;> rfl) | (simp [*, errW_none, errW_some] <;> rfl), by repeat (first | (with_reducible first | exact HB.out | apply below_alloc | apply pw_below_drewN | apply below_drew1 | refine below_set ?_ GE118.out) | exact HB.out)⟩
                            · rw [if_neg c24] at H
                              have c24b0 : decide (a0_4 ≤ 7) = false := decide_eq_false c24
                              clear c24
                              obtain rfl := Option.some.inj H
                              have hcz28_0 : wc.cell? ⟨gb118, 0, none⟩ = some (.int .i64 a0_0) := (blk_cell BK118.out 0).trans rfl
                              have hcz28_1 : wc.cell? ⟨gb118, 1, none⟩ = some (.int .i64 a0_1) := (blk_cell BK118.out 1).trans rfl
                              have hcz28_2 : wc.cell? ⟨gb118, 2, none⟩ = some (.int .i64 a0_2) := (blk_cell BK118.out 2).trans rfl
                              have hcz28_3 : wc.cell? ⟨gb118, 3, none⟩ = some (.int .i64 a0_3) := (blk_cell BK118.out 3).trans rfl
                              have hcz28_4 : wc.cell? ⟨gb118, 4, none⟩ = some (.int .u32 a0_4) := (blk_cell BK118.out 4).trans rfl
                              have hfz28_0 := blk_frozen BK118.out 0
                              have hfz28_1 := blk_frozen BK118.out 1
                              have hfz28_2 := blk_frozen BK118.out 2
                              have hfz28_3 := blk_frozen BK118.out 3
                              have hfz28_4 := blk_frozen BK118.out 4
                              go_wp2
                              go_ret
                              exact ⟨by first | rfl | (simp [errW_none, errW_some] <;> rfl) | (simp [*, errW_none, errW_some] <;> rfl), by repeat (first | (with_reducible first | exact HB.out | apply below_alloc | apply pw_below_drewN | apply below_drew1 | refine below_set ?_ GE118.out) | exact HB.out)⟩
                          · rw [if_neg c23] at H
                            have c23b0 : (a0_0 == 5) = false := beq_eq_false_iff_ne.mpr c23
                            have c23b1 : (a0_0 != 5) = true := bne_iff_ne.mpr c23
                            have HC29 := Aside0.mk H
                            clear H
                            go_upto_if 48 with (fail)
                            go_cut [48] (fun v48 wc => ∃ (kq : Nat) (x48_28 : Bool), v48 = .bool x48_28 ∧ Aside0 (ir_value.j4 kq a0_0 x48_28 a0_0 a0_1 a0_2 a0_3 a0_4 = some r) ∧ Aside0 (kq ≤ kj18) ∧ Aside0 (wc.heap[gb118]? = some (.cells #[.int .i64 a0_0, .int .i64 a0_1, .int .i64 a0_2, .int .i64 a0_3, .int .u32 a0_4] 25 (0, 0))) ∧ Aside0 (Below w.heap.size w wc))
                            case first =>
                              have H := HC29.out
                              clear HC29
                              by_cases c30 : a0_0 = 6
                              · rw [if_pos c30] at H
                                have c30b0 : (a0_0 == 6) = true := beq_iff_eq.mpr c30
                                have c30b1 : (a0_0 != 6) = false := bne_eq_false_iff_eq.mpr c30
                                clear c30
                                (first | rw [c30b0] | (simp only [i64_w, i32_w]; rw [c30b0]) | skip)
                                have H' := Aside0.mk H
                                clear H
                                go_wp2
                                go_meet
                                case rel => exact ⟨_, ((a0_0 == 6)), (by first | rfl | (simp; done) | (simp [*]; done)), H', ⟨by have := HJ1.out; have := HJ8.out; have := HJ12.out; have := HJ18.out; first | omega | exact Nat.le_refl _⟩, ⟨by (with_reducible repeat (first | refine blk_drewN ?_ _ | refine blk_drew ?_ | refine blk_alloc ?_ _)); exact BK118.out⟩, ⟨by repeat (first | (with_reducible first | exact HB.out | apply below_alloc | apply pw_below_drewN | apply below_drew1 | refine below_set ?_ GE118.out) | exact HB.out)⟩⟩
                              · rw [if_neg c30] at H
                                have c30b0 : (a0_0 == 6) = false := beq_eq_false_iff_ne.mpr c30
                                have c30b1 : (a0_0 != 6) = true := bne_iff_ne.mpr c30
                                (first | rw [c30b0] | (simp only [i64_w, i32_w]; rw [c30b0]) | skip)
                                have H' := Aside0.mk H
                                clear H
                                go_wp2
                                go_meet
                                case rel => exact ⟨_, ((a0_0 == 17)), (by first | rfl | (simp; done) | (simp [*]; done)), H', ⟨by have := HJ1.out; have := HJ8.out; have := HJ12.out; have := HJ18.out; first | omega | exact Nat.le_refl _⟩, ⟨by (with_reducible repeat (first | refine blk_drewN ?_ _ | refine blk_drew ?_ | refine blk_alloc ?_ _)); exact BK118.out⟩, ⟨by repeat (first | (with_reducible first | exact HB.out | apply below_alloc | apply pw_below_drewN | apply below_drew1 | refine below_set ?_ GE118.out) | exact HB.out)⟩⟩
                            case rest =>
                              clear HC29
                              try clear c1
                              try clear c2
                              try clear p2
                              try clear c3
                              try clear c5
                              try clear c5b0
                              try clear c5b1
                              try clear c6
                              try clear c6b0
                              try clear c6b1
                              try clear c7
                              try clear c7b0
                              try clear c7b1
                              try clear c8
                              try clear c10
                              try clear c10b0
                              try clear c10b1
                              try clear c11
                              try clear c14
                              try clear c14b0
                              try clear c14b1
                              try clear c15
                              try clear c16
                              try clear c16b0
                              try clear c20
                              try clear c20b0
                              try clear c20b1
                              try clear c21
                              try clear c23
                              try clear c23b0
                              try clear c23b1
                              try clear c24
                              try clear c24b0
                              try clear c25
                              try clear c25b0
                              try clear c25b1
                              try clear c29
                              try clear c30
                              try clear c30b0
                              try clear c30b1
                              try clear hcz12_0
                              try clear hcz12_1
                              try clear hcz12_2
                              try clear hcz12_3
                              try clear hcz12_4
                              try clear hcz17_0
                              try clear hcz17_1
                              try clear hcz17_2
                              try clear hcz17_3
                              try clear hcz17_4
                              try clear hcz18_0
                              try clear hcz18_1
                              try clear hcz18_2
                              try clear hcz18_3
                              try clear hcz18_4
                              try clear hcz22_0
                              try clear hcz22_1
                              try clear hcz22_2
                              try clear hcz22_3
                              try clear hcz22_4
                              try clear hcz26_0
                              try clear hcz26_1
                              try clear hcz26_2
                              try clear hcz26_3
                              try clear hcz26_4
                              try clear hcz27_0
                              try clear hcz27_1
                              try clear hcz27_2
                              try clear hcz27_3
                              try clear hcz27_4
                              try clear hcz28_0
                              try clear hcz28_1
                              try clear hcz28_2
                              try clear hcz28_3
                              try clear hcz28_4
                              try clear hcz4_0
                              try clear hcz4_1
                              try clear hcz4_2
                              try clear hcz4_3
                              try clear hcz4_4
                              try clear hfz12_0
                              try clear hfz12_1
                              try clear hfz12_2
                              try clear hfz12_3
                              try clear hfz12_4
                              try clear hfz17_0
                              try clear hfz17_1
                              try clear hfz17_2
                              try clear hfz17_3
                              try clear hfz17_4
                              try clear hfz18_0
                              try clear hfz18_1
                              try clear hfz18_2
                              try clear hfz18_3
                              try clear hfz18_4
                              try clear hfz22_0
                              try clear hfz22_1
                              try clear hfz22_2
                              try clear hfz22_3
                              try clear hfz22_4
                              try clear hfz26_0
                              try clear hfz26_1
                              try clear hfz26_2
                              try clear hfz26_3
                              try clear hfz26_4
                              try clear hfz27_0
                              try clear hfz27_1
                              try clear hfz27_2
                              try clear hfz27_3
                              try clear hfz27_4
                              try clear hfz28_0
                              try clear hfz28_1
                              try clear hfz28_2
                              try clear hfz28_3
                              try clear hfz28_4
                              try clear hfz4_0
                              try clear hfz4_1
                              try clear hfz4_2
                              try clear hfz4_3
                              try clear hfz4_4
                              try clear p2
                              obtain ⟨kq, x48_28, rfl, HA, HJ28, BK118, HB⟩ := hcut
                              cases kq with
                              | zero => exact absurd HA.out (by simp [ir_value.j4])
                              | succ kj28 =>
                                have H := HA.out
                                clear HA
                                simp only [ir_value.j4] at H
                                by_cases c31 : x48_28 = true
                                · subst c31
                                  have H1 : ((ir_sized.f a0_4).bind fun t119 => (if t119 = true then (some true) else (if a0_4 = 9 then (some true) else (some (a0_4 == 10))))) = some r := by rw [if_pos rfl] at H; exact H
                                  clear H
                                  have H := H1
                                  clear H1
                                  replace H := Option.bind_eq_some_iff.mp H
                                  obtain ⟨t119, A320, H⟩ := H
                                  replace H : (if t119 = true then (some true) else (if a0_4 = 9 then (some true) else (some (a0_4 == 10)))) = some r := H
                                  have A32 := Aside0.mk A320
                                  clear A320
                                  by_cases c33 : t119 = true
                                  · subst c33
                                    have H1 : (some true) = some r := by rw [if_pos rfl] at H; exact H
                                    clear H
                                    have H := H1
                                    clear H1
                                    obtain rfl := Option.some.inj H
                                    have hcz34_0 : wc.cell? ⟨gb118, 0, none⟩ = some (.int .i64 a0_0) := (blk_cell BK118.out 0).trans rfl
                                    have hcz34_1 : wc.cell? ⟨gb118, 1, none⟩ = some (.int .i64 a0_1) := (blk_cell BK118.out 1).trans rfl
                                    have hcz34_2 : wc.cell? ⟨gb118, 2, none⟩ = some (.int .i64 a0_2) := (blk_cell BK118.out 2).trans rfl
                                    have hcz34_3 : wc.cell? ⟨gb118, 3, none⟩ = some (.int .i64 a0_3) := (blk_cell BK118.out 3).trans rfl
                                    have hcz34_4 : wc.cell? ⟨gb118, 4, none⟩ = some (.int .u32 a0_4) := (blk_cell BK118.out 4).trans rfl
                                    have hfz34_0 := blk_frozen BK118.out 0
                                    have hfz34_1 := blk_frozen BK118.out 1
                                    have hfz34_2 := blk_frozen BK118.out 2
                                    have hfz34_3 := blk_frozen BK118.out 3
                                    have hfz34_4 := blk_frozen BK118.out 4
                                    go_wp2_with (first | ((with_reducible refine gate_callee (f := 40) rfl ?_); refine goesL_ (some 53) rfl rfl Tryd.func40 (by kernel_rfl) rfl #[.int .u32 a0_4] rfl (by (try simp only [List.map_toArray, List.map_cons, List.map_nil]); first | done | rfl | (simp only [List.length_drop, List.length_take]; rfl)) ?_; (with_reducible refine (ir_sized.calls a0_4 true _ A32.out).mono ?_); rintro e w' ⟨rfl, ⟨nd, rfl⟩⟩; refine ⟨_, rfl, ?_⟩))
                                    go_ret
                                    exact ⟨by first | rfl | (simp [errW_none, errW_some] <;> rfl) | (simp [*, errW_none, errW_some] <;> rfl), by repeat (first | (with_reducible first | exact HB.out | apply below_alloc | apply pw_below_drewN | apply below_drew1 | refine below_set ?_ GE118.out) | exact HB.out)⟩
                                  · replace c33 := Bool.eq_false_iff.mpr c33
                                    subst c33
                                    have H1 : (if a0_4 = 9 then (some true) else (some (a0_4 == 10))) = some r := by rw [if_neg (show ¬ (false = true) by decide)] at H; exact H
                                    clear H
                                    have H := H1
                                    clear H1
                                    by_cases c35 : a0_4 = 9
                                    · rw [if_pos c35] at H
                                      have c35b0 : (a0_4 == 9) = true := beq_iff_eq.mpr c35
                                      have c35b1 : (a0_4 != 9) = false := bne_eq_false_iff_eq.mpr c35
                                      clear c35
                                      obtain rfl := Option.some.inj H
                                      have hcz36_0 : wc.cell? ⟨gb118, 0, none⟩ = some (.int .i64 a0_0) := (blk_cell BK118.out 0).trans rfl
                                      have hcz36_1 : wc.cell? ⟨gb118, 1, none⟩ = some (.int .i64 a0_1) := (blk_cell BK118.out 1).trans rfl
                                      have hcz36_2 : wc.cell? ⟨gb118, 2, none⟩ = some (.int .i64 a0_2) := (blk_cell BK118.out 2).trans rfl
                                      have hcz36_3 : wc.cell? ⟨gb118, 3, none⟩ = some (.int .i64 a0_3) := (blk_cell BK118.out 3).trans rfl
                                      have hcz36_4 : wc.cell? ⟨gb118, 4, none⟩ = some (.int .u32 a0_4) := (blk_cell BK118.out 4).trans rfl
                                      have hfz36_0 := blk_frozen BK118.out 0
                                      have hfz36_1 := blk_frozen BK118.out 1
                                      have hfz36_2 := blk_frozen BK118.out 2
                                      have hfz36_3 := blk_frozen BK118.out 3
                                      have hfz36_4 := blk_frozen BK118.out 4
                                      go_wp2_with (first | ((with_reducible refine gate_callee (f := 40) rfl ?_); refine goesL_ (some 53) rfl rfl Tryd.func40 (by kernel_rfl) rfl #[.int .u32 a0_4] rfl (by (try simp only [List.map_toArray, List.map_cons, List.map_nil]); first | done | rfl | (simp only [List.length_drop, List.length_take]; rfl)) ?_; (with_reducible refine (ir_sized.calls a0_4 false _ A32.out).mono ?_); rintro e w' ⟨rfl, ⟨nd, rfl⟩⟩; refine ⟨_, rfl, ?_⟩))
                                      go_ret
                                      exact ⟨by first | rfl | (simp [errW_none, errW_some] <;> rfl) | (simp [*, errW_none, errW_some] <;> rfl), by repeat (first | (with_reducible first | exact HB.out | apply below_alloc | apply pw_below_drewN | apply below_drew1 | refine below_set ?_ GE118.out) | exact HB.out)⟩
                                    · rw [if_neg c35] at H
                                      have c35b0 : (a0_4 == 9) = false := beq_eq_false_iff_ne.mpr c35
                                      have c35b1 : (a0_4 != 9) = true := bne_iff_ne.mpr c35
                                      obtain rfl := Option.some.inj H
                                      have hcz37_0 : wc.cell? ⟨gb118, 0, none⟩ = some (.int .i64 a0_0) := (blk_cell BK118.out 0).trans rfl
                                      have hcz37_1 : wc.cell? ⟨gb118, 1, none⟩ = some (.int .i64 a0_1) := (blk_cell BK118.out 1).trans rfl
                                      have hcz37_2 : wc.cell? ⟨gb118, 2, none⟩ = some (.int .i64 a0_2) := (blk_cell BK118.out 2).trans rfl
                                      have hcz37_3 : wc.cell? ⟨gb118, 3, none⟩ = some (.int .i64 a0_3) := (blk_cell BK118.out 3).trans rfl
                                      have hcz37_4 : wc.cell? ⟨gb118, 4, none⟩ = some (.int .u32 a0_4) := (blk_cell BK118.out 4).trans rfl
                                      have hfz37_0 := blk_frozen BK118.out 0
                                      have hfz37_1 := blk_frozen BK118.out 1
                                      have hfz37_2 := blk_frozen BK118.out 2
                                      have hfz37_3 := blk_frozen BK118.out 3
                                      have hfz37_4 := blk_frozen BK118.out 4
                                      go_wp2_with (first | ((with_reducible refine gate_callee (f := 40) rfl ?_); refine goesL_ (some 53) rfl rfl Tryd.func40 (by kernel_rfl) rfl #[.int .u32 a0_4] rfl (by (try simp only [List.map_toArray, List.map_cons, List.map_nil]); first | done | rfl | (simp only [List.length_drop, List.length_take]; rfl)) ?_; (with_reducible refine (ir_sized.calls a0_4 false _ A32.out).mono ?_); rintro e w' ⟨rfl, ⟨nd, rfl⟩⟩; refine ⟨_, rfl, ?_⟩))
                                      go_ret
                                      exact ⟨by first | rfl | (simp [errW_none, errW_some] <;> rfl) | (simp [*, errW_none, errW_some] <;> rfl), by repeat (first | (with_reducible first | exact HB.out | apply below_alloc | apply pw_below_drewN | apply below_drew1 | refine below_set ?_ GE118.out) | exact HB.out)⟩
                                · replace c31 := Bool.eq_false_iff.mpr c31
                                  subst c31
                                  have H1 : (if a0_0 = 7 then (ir_value.j5 kj28 a0_0 (a0_0 == 7) a0_0 a0_1 a0_2 a0_3 a0_4) else (ir_value.j5 kj28 a0_0 (a0_0 == 18) a0_0 a0_1 a0_2 a0_3 a0_4)) = some r := by rw [if_neg (show ¬ (false = true) by decide)] at H; exact H
                                  clear H
                                  have H := H1
                                  clear H1
                                  have HC38 := Aside0.mk H
                                  clear H
                                  go_upto_if 64 with (fail)
                                  go_cut [64] (fun v64 wc => ∃ (kq : Nat) (x64_37 : Bool), v64 = .bool x64_37 ∧ Aside0 (ir_value.j5 kq a0_0 x64_37 a0_0 a0_1 a0_2 a0_3 a0_4 = some r) ∧ Aside0 (kq ≤ kj28) ∧ Aside0 (wc.heap[gb118]? = some (.cells #[.int .i64 a0_0, .int .i64 a0_1, .int .i64 a0_2, .int .i64 a0_3, .int .u32 a0_4] 25 (0, 0))) ∧ Aside0 (Below w.heap.size w wc))
                                  case first =>
                                    have H := HC38.out
                                    clear HC38
                                    by_cases c39 : a0_0 = 7
                                    · rw [if_pos c39] at H
                                      have c39b0 : (a0_0 == 7) = true := beq_iff_eq.mpr c39
                                      have c39b1 : (a0_0 != 7) = false := bne_eq_false_iff_eq.mpr c39
                                      clear c39
                                      (first | rw [c39b0] | (simp only [i64_w, i32_w]; rw [c39b0]) | skip)
                                      have H' := Aside0.mk H
                                      clear H
                                      go_wp2
                                      go_meet
                                      case rel => exact ⟨_, ((a0_0 == 7)), (by first | rfl | (simp; done) | (simp [*]; done)), H', ⟨by have := HJ1.out; have := HJ8.out; have := HJ12.out; have := HJ18.out; have := HJ28.out; first | omega | exact Nat.le_refl _⟩, ⟨by (with_reducible repeat (first | refine blk_drewN ?_ _ | refine blk_drew ?_ | refine blk_alloc ?_ _)); exact BK118.out⟩, ⟨by repeat (first | (with_reducible first | exact HB.out | apply below_alloc | apply pw_below_drewN | apply below_drew1 | refine below_set ?_ GE118.out) | exact HB.out)⟩⟩
                                    · rw [if_neg c39] at H
                                      have c39b0 : (a0_0 == 7) = false := beq_eq_false_iff_ne.mpr c39
                                      have c39b1 : (a0_0 != 7) = true := bne_iff_ne.mpr c39
                                      (first | rw [c39b0] | (simp only [i64_w, i32_w]; rw [c39b0]) | skip)
                                      have H' := Aside0.mk H
                                      clear H
                                      go_wp2
                                      go_meet
                                      case rel => exact ⟨_, ((a0_0 == 18)), (by first | rfl | (simp; done) | (simp [*]; done)), H', ⟨by have := HJ1.out; have := HJ8.out; have := HJ12.out; have := HJ18.out; have := HJ28.out; first | omega | exact Nat.le_refl _⟩, ⟨by (with_reducible repeat (first | refine blk_drewN ?_ _ | refine blk_drew ?_ | refine blk_alloc ?_ _)); exact BK118.out⟩, ⟨by repeat (first | (with_reducible first | exact HB.out | apply below_alloc | apply pw_below_drewN | apply below_drew1 | refine below_set ?_ GE118.out) | exact HB.out)⟩⟩
                                  case rest =>
                                    clear HC38
                                    try clear c1
                                    try clear c2
                                    try clear p2
                                    try clear c3
                                    try clear c4
                                    try clear c5
                                    try clear c5b0
                                    try clear c5b1
                                    try clear c6
                                    try clear c6b0
                                    try clear c6b1
                                    try clear c7
                                    try clear c7b0
                                    try clear c7b1
                                    try clear c8
                                    try clear c10
                                    try clear c10b0
                                    try clear c10b1
                                    try clear c11
                                    try clear c14
                                    try clear c14b0
                                    try clear c14b1
                                    try clear c15
                                    try clear c16
                                    try clear c16b0
                                    try clear c20
                                    try clear c20b0
                                    try clear c20b1
                                    try clear c21
                                    try clear c23
                                    try clear c23b0
                                    try clear c23b1
                                    try clear c24
                                    try clear c24b0
                                    try clear c25
                                    try clear c25b0
                                    try clear c25b1
                                    try clear c29
                                    try clear c30
                                    try clear c30b0
                                    try clear c30b1
                                    try clear c31
                                    try clear c33
                                    try clear c35
                                    try clear c35b0
                                    try clear c35b1
                                    try clear c39
                                    try clear c39b0
                                    try clear c39b1
                                    try clear hcz12_0
                                    try clear hcz12_1
                                    try clear hcz12_2
                                    try clear hcz12_3
                                    try clear hcz12_4
                                    try clear hcz17_0
                                    try clear hcz17_1
                                    try clear hcz17_2
                                    try clear hcz17_3
                                    try clear hcz17_4
                                    try clear hcz18_0
                                    try clear hcz18_1
                                    try clear hcz18_2
                                    try clear hcz18_3
                                    try clear hcz18_4
                                    try clear hcz22_0
                                    try clear hcz22_1
                                    try clear hcz22_2
                                    try clear hcz22_3
                                    try clear hcz22_4
                                    try clear hcz26_0
                                    try clear hcz26_1
                                    try clear hcz26_2
                                    try clear hcz26_3
                                    try clear hcz26_4
                                    try clear hcz27_0
                                    try clear hcz27_1
                                    try clear hcz27_2
                                    try clear hcz27_3
                                    try clear hcz27_4
                                    try clear hcz28_0
                                    try clear hcz28_1
                                    try clear hcz28_2
                                    try clear hcz28_3
                                    try clear hcz28_4
                                    try clear hcz34_0
                                    try clear hcz34_1
                                    try clear hcz34_2
                                    try clear hcz34_3
                                    try clear hcz34_4
                                    try clear hcz36_0
                                    try clear hcz36_1
                                    try clear hcz36_2
                                    try clear hcz36_3
                                    try clear hcz36_4
                                    try clear hcz37_0
                                    try clear hcz37_1
                                    try clear hcz37_2
                                    try clear hcz37_3
                                    try clear hcz37_4
                                    try clear hcz4_0
                                    try clear hcz4_1
                                    try clear hcz4_2
                                    try clear hcz4_3
                                    try clear hcz4_4
                                    try clear hfz12_0
                                    try clear hfz12_1
                                    try clear hfz12_2
                                    try clear hfz12_3
                                    try clear hfz12_4
                                    try clear hfz17_0
                                    try clear hfz17_1
                                    try clear hfz17_2
                                    try clear hfz17_3
                                    try clear hfz17_4
                                    try clear hfz18_0
                                    try clear hfz18_1
                                    try clear hfz18_2
                                    try clear hfz18_3
                                    try clear hfz18_4
                                    try clear hfz22_0
                                    try clear hfz22_1
                                    try clear hfz22_2
                                    try clear hfz22_3
                                    try clear hfz22_4
                                    try clear hfz26_0
                                    try clear hfz26_1
                                    try clear hfz26_2
                                    try clear hfz26_3
                                    try clear hfz26_4
                                    try clear hfz27_0
                                    try clear hfz27_1
                                    try clear hfz27_2
                                    try clear hfz27_3
                                    try clear hfz27_4
                                    try clear hfz28_0
                                    try clear hfz28_1
                                    try clear hfz28_2
                                    try clear hfz28_3
                                    try clear hfz28_4
                                    try clear hfz34_0
                                    try clear hfz34_1
                                    try clear hfz34_2
                                    try clear hfz34_3
                                    try clear hfz34_4
                                    try clear hfz36_0
                                    try clear hfz36_1
                                    try clear hfz36_2
                                    try clear hfz36_3
                                    try clear hfz36_4
                                    try clear hfz37_0
                                    try clear hfz37_1
                                    try clear hfz37_2
                                    try clear hfz37_3
                                    try clear hfz37_4
                                    try clear hfz4_0
                                    try clear hfz4_1
                                    try clear hfz4_2
                                    try clear hfz4_3
                                    try clear hfz4_4
                                    try clear p2
                                    obtain ⟨kq, x64_37, rfl, HA, HJ37, BK118, HB⟩ := hcut
                                    cases kq with
                                    | zero => exact absurd HA.out (by simp [ir_value.j5])
                                    | succ kj37 =>
                                      have H := HA.out
                                      clear HA
                                      simp only [ir_value.j5] at H
                                      by_cases c40 : x64_37 = true
                                      · subst c40
                                        have H1 : ((ir_sized.f a0_4).bind fun t120 => (some t120)) = some r := by rw [if_pos rfl] at H; exact H
                                        clear H
                                        have H := H1
                                        clear H1
                                        replace H := Option.bind_eq_some_iff.mp H
                                        obtain ⟨t120, A410, H⟩ := H
                                        replace H : (some t120) = some r := H
                                        have A41 := Aside0.mk A410
                                        clear A410
                                        obtain rfl := Option.some.inj H
                                        have hcz42_0 : wc.cell? ⟨gb118, 0, none⟩ = some (.int .i64 a0_0) := (blk_cell BK118.out 0).trans rfl
                                        have hcz42_1 : wc.cell? ⟨gb118, 1, none⟩ = some (.int .i64 a0_1) := (blk_cell BK118.out 1).trans rfl
                                        have hcz42_2 : wc.cell? ⟨gb118, 2, none⟩ = some (.int .i64 a0_2) := (blk_cell BK118.out 2).trans rfl
                                        have hcz42_3 : wc.cell? ⟨gb118, 3, none⟩ = some (.int .i64 a0_3) := (blk_cell BK118.out 3).trans rfl
                                        have hcz42_4 : wc.cell? ⟨gb118, 4, none⟩ = some (.int .u32 a0_4) := (blk_cell BK118.out 4).trans rfl
                                        have hfz42_0 := blk_frozen BK118.out 0
                                        have hfz42_1 := blk_frozen BK118.out 1
                                        have hfz42_2 := blk_frozen BK118.out 2
                                        have hfz42_3 := blk_frozen BK118.out 3
                                        have hfz42_4 := blk_frozen BK118.out 4
                                        go_wp2_with (first | ((with_reducible refine gate_callee (f := 40) rfl ?_); refine goesL_ (some 69) rfl rfl Tryd.func40 (by kernel_rfl) rfl #[.int .u32 a0_4] rfl (by (try simp only [List.map_toArray, List.map_cons, List.map_nil]); first | done | rfl | (simp only [List.length_drop, List.length_take]; rfl)) ?_; (with_reducible refine (ir_sized.calls a0_4 t120 _ A41.out).mono ?_); rintro e w' ⟨rfl, ⟨nd, rfl⟩⟩; refine ⟨_, rfl, ?_⟩))
                                        go_ret
                                        exact ⟨by first | rfl | (simp [errW_none, errW_some] <;> rfl) | (simp [*, errW_none, errW_some] <;> rfl), by repeat (first | (with_reducible first | exact HB.out | apply below_alloc | apply pw_below_drewN | apply below_drew1 | refine below_set ?_ GE118.out) | exact HB.out)⟩
                                      · replace c40 := Bool.eq_false_iff.mpr c40
                                        subst c40
                                        have H1 : (if a0_0 = 13 then (if a0_4 = 2 then (some true) else (if a0_4 = 5 then (some true) else (some (a0_4 == 6)))) else (if a0_0 = 20 then (if a0_4 ≥ 1 then (some (decide (a0_4 ≤ 3))) else (some false)) else (some (a0_4 == 0)))) = some r := by rw [if_neg (show ¬ (false = true) by decide)] at H; exact H
                                        clear H
                                        have H := H1
                                        clear H1
                                        by_cases c43 : a0_0 = 13
                                        · rw [if_pos c43] at H
                                          have c43b0 : (a0_0 == 13) = true := beq_iff_eq.mpr c43
                                          have c43b1 : (a0_0 != 13) = false := bne_eq_false_iff_eq.mpr c43
                                          clear c43
                                          by_cases c44 : a0_4 = 2
                                          · rw [if_pos c44] at H
                                            have c44b0 : (a0_4 == 2) = true := beq_iff_eq.mpr c44
                                            have c44b1 : (a0_4 != 2) = false := bne_eq_false_iff_eq.mpr c44
                                            clear c44
                                            obtain rfl := Option.some.inj H
                                            have hcz45_0 : wc.cell? ⟨gb118, 0, none⟩ = some (.int .i64 a0_0) := (blk_cell BK118.out 0).trans rfl
                                            have hcz45_1 : wc.cell? ⟨gb118, 1, none⟩ = some (.int .i64 a0_1) := (blk_cell BK118.out 1).trans rfl
                                            have hcz45_2 : wc.cell? ⟨gb118, 2, none⟩ = some (.int .i64 a0_2) := (blk_cell BK118.out 2).trans rfl
                                            have hcz45_3 : wc.cell? ⟨gb118, 3, none⟩ = some (.int .i64 a0_3) := (blk_cell BK118.out 3).trans rfl
                                            have hcz45_4 : wc.cell? ⟨gb118, 4, none⟩ = some (.int .u32 a0_4) := (blk_cell BK118.out 4).trans rfl
                                            have hfz45_0 := blk_frozen BK118.out 0
                                            have hfz45_1 := blk_frozen BK118.out 1
                                            have hfz45_2 := blk_frozen BK118.out 2
                                            have hfz45_3 := blk_frozen BK118.out 3
                                            have hfz45_4 := blk_frozen BK118.out 4
                                            go_wp2
                                            go_ret
                                            exact ⟨by first | rfl | (simp [errW_none, errW_some] <;> rfl) | (simp [*, errW_none, errW_some] <;> rfl), by repeat (first | (with_reducible first | exact HB.out | apply below_alloc | apply pw_below_drewN | apply below_drew1 | refine below_set ?_ GE118.out) | exact HB.out)⟩
                                          · rw [if_neg c44] at H
                                            have c44b0 : (a0_4 == 2) = false := beq_eq_false_iff_ne.mpr c44
                                            have c44b1 : (a0_4 != 2) = true := bne_iff_ne.mpr c44
                                            by_cases c46 : a0_4 = 5
                                            · rw [if_pos c46] at H
                                              have c46b0 : (a0_4 == 5) = true := beq_iff_eq.mpr c46
                                              have c46b1 : (a0_4 != 5) = false := bne_eq_false_iff_eq.mpr c46
                                              clear c46
                                              obtain rfl := Option.some.inj H
                                              have hcz47_0 : wc.cell? ⟨gb118, 0, none⟩ = some (.int .i64 a0_0) := (blk_cell BK118.out 0).trans rfl
                                              have hcz47_1 : wc.cell? ⟨gb118, 1, none⟩ = some (.int .i64 a0_1) := (blk_cell BK118.out 1).trans rfl
                                              have hcz47_2 : wc.cell? ⟨gb118, 2, none⟩ = some (.int .i64 a0_2) := (blk_cell BK118.out 2).trans rfl
                                              have hcz47_3 : wc.cell? ⟨gb118, 3, none⟩ = some (.int .i64 a0_3) := (blk_cell BK118.out 3).trans rfl
                                              have hcz47_4 : wc.cell? ⟨gb118, 4, none⟩ = some (.int .u32 a0_4) := (blk_cell BK118.out 4).trans rfl
                                              have hfz47_0 := blk_frozen BK118.out 0
                                              have hfz47_1 := blk_frozen BK118.out 1
                                              have hfz47_2 := blk_frozen BK118.out 2
                                              have hfz47_3 := blk_frozen BK118.out 3
                                              have hfz47_4 := blk_frozen BK118.out 4
                                              go_wp2
                                              go_ret
                                              exact ⟨by first | rfl | (simp [errW_none, errW_some] <;> rfl) | (simp [*, errW_none, errW_some] <;> rfl), by repeat (first | (with_reducible first | exact HB.out | apply below_alloc | apply pw_below_drewN | apply below_drew1 | refine below_set ?_ GE118.out) | exact HB.out)⟩
                                            · rw [if_neg c46] at H
                                              have c46b0 : (a0_4 == 5) = false := beq_eq_false_iff_ne.mpr c46
                                              have c46b1 : (a0_4 != 5) = true := bne_iff_ne.mpr c46
                                              obtain rfl := Option.some.inj H
                                              have hcz48_0 : wc.cell? ⟨gb118, 0, none⟩ = some (.int .i64 a0_0) := (blk_cell BK118.out 0).trans rfl
                                              have hcz48_1 : wc.cell? ⟨gb118, 1, none⟩ = some (.int .i64 a0_1) := (blk_cell BK118.out 1).trans rfl
                                              have hcz48_2 : wc.cell? ⟨gb118, 2, none⟩ = some (.int .i64 a0_2) := (blk_cell BK118.out 2).trans rfl
                                              have hcz48_3 : wc.cell? ⟨gb118, 3, none⟩ = some (.int .i64 a0_3) := (blk_cell BK118.out 3).trans rfl
                                              have hcz48_4 : wc.cell? ⟨gb118, 4, none⟩ = some (.int .u32 a0_4) := (blk_cell BK118.out 4).trans rfl
                                              have hfz48_0 := blk_frozen BK118.out 0
                                              have hfz48_1 := blk_frozen BK118.out 1
                                              have hfz48_2 := blk_frozen BK118.out 2
                                              have hfz48_3 := blk_frozen BK118.out 3
                                              have hfz48_4 := blk_frozen BK118.out 4
                                              go_wp2
                                              go_ret
                                              exact ⟨by first | rfl | (simp [errW_none, errW_some] <;> rfl) | (simp [*, errW_none, errW_some] <;> rfl), by repeat (first | (with_reducible first | exact HB.out | apply below_alloc | apply pw_below_drewN | apply below_drew1 | refine below_set ?_ GE118.out) | exact HB.out)⟩
                                        · rw [if_neg c43] at H
                                          have c43b0 : (a0_0 == 13) = false := beq_eq_false_iff_ne.mpr c43
                                          have c43b1 : (a0_0 != 13) = true := bne_iff_ne.mpr c43
                                          by_cases c49 : a0_0 = 20
                                          · rw [if_pos c49] at H
                                            have c49b0 : (a0_0 == 20) = true := beq_iff_eq.mpr c49
                                            have c49b1 : (a0_0 != 20) = false := bne_eq_false_iff_eq.mpr c49
                                            clear c49
                                            by_cases c50 : a0_4 ≥ 1
                                            · rw [if_pos c50] at H
                                              have c50b0 : decide (1 ≤ a0_4) = true := decide_eq_true c50
                                              clear c50
                                              obtain rfl := Option.some.inj H
                                              have hcz51_0 : wc.cell? ⟨gb118, 0, none⟩ = some (.int .i64 a0_0) := (blk_cell BK118.out 0).trans rfl
                                              have hcz51_1 : wc.cell? ⟨gb118, 1, none⟩ = some (.int .i64 a0_1) := (blk_cell BK118.out 1).trans rfl
                                              have hcz51_2 : wc.cell? ⟨gb118, 2, none⟩ = some (.int .i64 a0_2) := (blk_cell BK118.out 2).trans rfl
                                              have hcz51_3 : wc.cell? ⟨gb118, 3, none⟩ = some (.int .i64 a0_3) := (blk_cell BK118.out 3).trans rfl
                                              have hcz51_4 : wc.cell? ⟨gb118, 4, none⟩ = some (.int .u32 a0_4) := (blk_cell BK118.out 4).trans rfl
                                              have hfz51_0 := blk_frozen BK118.out 0
                                              have hfz51_1 := blk_frozen BK118.out 1
                                              have hfz51_2 := blk_frozen BK118.out 2
                                              have hfz51_3 := blk_frozen BK118.out 3
                                              have hfz51_4 := blk_frozen BK118.out 4
                                              go_wp2
                                              go_ret
                                              exact ⟨by first | rfl | (simp [errW_none, errW_some] <;> rfl) | (simp [*, errW_none, errW_some] <;> rfl), by repeat (first | (with_reducible first | exact HB.out | apply below_alloc | apply pw_below_drewN | apply below_drew1 | refine below_set ?_ GE118.out) | exact HB.out)⟩
                                            · rw [if_neg c50] at H
                                              have c50b0 : decide (1 ≤ a0_4) = false := decide_eq_false c50
                                              clear c50
                                              obtain rfl := Option.some.inj H
                                              have hcz52_0 : wc.cell? ⟨gb118, 0, none⟩ = some (.int .i64 a0_0) := (blk_cell BK118.out 0).trans rfl
                                              have hcz52_1 : wc.cell? ⟨gb118, 1, none⟩ = some (.int .i64 a0_1) := (blk_cell BK118.out 1).trans rfl
                                              have hcz52_2 : wc.cell? ⟨gb118, 2, none⟩ = some (.int .i64 a0_2) := (blk_cell BK118.out 2).trans rfl
                                              have hcz52_3 : wc.cell? ⟨gb118, 3, none⟩ = some (.int .i64 a0_3) := (blk_cell BK118.out 3).trans rfl
                                              have hcz52_4 : wc.cell? ⟨gb118, 4, none⟩ = some (.int .u32 a0_4) := (blk_cell BK118.out 4).trans rfl
                                              have hfz52_0 := blk_frozen BK118.out 0
                                              have hfz52_1 := blk_frozen BK118.out 1
                                              have hfz52_2 := blk_frozen BK118.out 2
                                              have hfz52_3 := blk_frozen BK118.out 3
                                              have hfz52_4 := blk_frozen BK118.out 4
                                              go_wp2
                                              go_ret
                                              exact ⟨by first | rfl | (simp [errW_none, errW_some] <;> rfl) | (simp [*, errW_none, errW_some] <;> rfl), by repeat (first | (with_reducible first | exact HB.out | apply below_alloc | apply pw_below_drewN | apply below_drew1 | refine below_set ?_ GE118.out) | exact HB.out)⟩
                                          · rw [if_neg c49] at H
                                            have c49b0 : (a0_0 == 20) = false := beq_eq_false_iff_ne.mpr c49
                                            have c49b1 : (a0_0 != 20) = true := bne_iff_ne.mpr c49
                                            obtain rfl := Option.some.inj H
                                            have hcz53_0 : wc.cell? ⟨gb118, 0, none⟩ = some (.int .i64 a0_0) := (blk_cell BK118.out 0).trans rfl
                                            have hcz53_1 : wc.cell? ⟨gb118, 1, none⟩ = some (.int .i64 a0_1) := (blk_cell BK118.out 1).trans rfl
                                            have hcz53_2 : wc.cell? ⟨gb118, 2, none⟩ = some (.int .i64 a0_2) := (blk_cell BK118.out 2).trans rfl
                                            have hcz53_3 : wc.cell? ⟨gb118, 3, none⟩ = some (.int .i64 a0_3) := (blk_cell BK118.out 3).trans rfl
                                            have hcz53_4 : wc.cell? ⟨gb118, 4, none⟩ = some (.int .u32 a0_4) := (blk_cell BK118.out 4).trans rfl
                                            have hfz53_0 := blk_frozen BK118.out 0
                                            have hfz53_1 := blk_frozen BK118.out 1
                                            have hfz53_2 := blk_frozen BK118.out 2
                                            have hfz53_3 := blk_frozen BK118.out 3
                                            have hfz53_4 := blk_frozen BK118.out 4
                                            go_wp2
                                            go_ret
                                            exact ⟨by first | rfl | (simp [errW_none, errW_some] <;> rfl) | (simp [*, errW_none, errW_some] <;> rfl), by repeat (first | (with_reducible first | exact HB.out | apply below_alloc | apply pw_below_drewN | apply below_drew1 | refine below_set ?_ GE118.out) | exact HB.out)⟩
end Go.Proofs.YtefijnbhdjpfpaaDoor.Ir
