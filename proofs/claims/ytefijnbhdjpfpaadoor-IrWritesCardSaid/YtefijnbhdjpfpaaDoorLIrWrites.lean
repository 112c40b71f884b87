/- What the law IrWrites answers (its lines began as print.sh's). -/
import Derived.Test.YtefijnbhdjpfpaaDoorI11
namespace Go.Proofs.YtefijnbhdjpfpaaDoor.Ir
open Go.RowKit Go.Proofs.YtefijnbhdjpfpaaDoorW.PrintWords Go.Proofs.YtefijnbhdjpfpaaDoorW.PrintLast Go.Proofs.YtefijnbhdjpfpaaDoorW.PrintMore
attribute [local go_sem] max2_int min2_int max_two min_two max_three min_three max_four min_four   -- for this text's walks alone
set_option linter.unusedVariables false
set_option linter.unusedSimpArgs false
/-! ### tincturelaw19_IrWrites: function 7 -/
def tincturelaw19_IrWrites.l0 : Nat → Int → Bool → List Int → Int → Int → Int → Int → Int → Int → Option (Bool)
  | 0, _, _, _, _, _, _, _, _, _ => none
  | k + 1, x3, x4, x5, x6, x159000, x159001, x159002, x159003, x159004 => if x6 < (x5.length : Int) then (if 0 ≤ x6 then (if (rd x5 x6) = x159002 then (tincturelaw19_IrWrites.l0 k x3 x4 x5 (wrap64 (x6 + 1)) x159000 x159001 x159002 x159003 x159004) else (if (rd x5 x6) = x159003 then (tincturelaw19_IrWrites.l0 k x3 x4 x5 (wrap64 (x6 + 1)) x159000 x159001 x159002 x159003 x159004) else (if x159000 = 19 then (if (rd x5 x6) = x159001 then (tincturelaw19_IrWrites.l0 k x3 x4 x5 (wrap64 (x6 + 1)) x159000 x159001 x159002 x159003 x159004) else (some false)) else (some false)))) else (none)) else (if x159000 = 1 then (if (x4 == true) = true then (if x4 = true then (if x3 = x159001 then (some (decide ((x5.length : Int) ≤ 2))) else (some false)) else (if x3 = 0 then (some (decide ((x5.length : Int) ≤ 2))) else (some false))) else (some false)) else (if x159000 = 2 then (if (x4 == true) = true then (if x4 = true then (if x3 = x159001 then (some (decide ((x5.length : Int) ≤ 2))) else (some false)) else (if x3 = 0 then (some (decide ((x5.length : Int) ≤ 2))) else (some false))) else (some false)) else (if x159000 ≥ 4 then (if (x4 == (decide (x159000 ≤ 6))) = true then (if x4 = true then (if x3 = x159001 then (some (decide ((x5.length : Int) ≤ 2))) else (some false)) else (if x3 = 0 then (some (decide ((x5.length : Int) ≤ 2))) else (some false))) else (some false)) else (if (x4 == false) = true then (if x4 = true then (if x3 = x159001 then (some (decide ((x5.length : Int) ≤ 2))) else (some false)) else (if x3 = 0 then (some (decide ((x5.length : Int) ≤ 2))) else (some false))) else (some false)))))
def tincturelaw19_IrWrites.f (k : Nat) (a0_0 : Int) (a0_1 : Int) (a0_2 : Int) (a0_3 : Int) (a0_4 : Int) : Option (Bool) := (tincturelaw19_awake.f).bind fun t159 => (if t159 = true then ((ir_Writes.f a0_0 a0_1 a0_2 a0_3 a0_4).bind fun bt160 => ((ir_Reads.f k a0_0 a0_1 a0_2 a0_3 a0_4).bind fun t162 => (tincturelaw19_IrWrites.l0 k bt160.1 bt160.2 t162 0 a0_0 a0_1 a0_2 a0_3 a0_4))) else (some false))
theorem tincturelaw19_IrWrites.mono_l : ∀ k, (∀ y0 y1 y2 y3 y4 y5 y6 y7 y8, LeO (tincturelaw19_IrWrites.l0 k y0 y1 y2 y3 y4 y5 y6 y7 y8) (tincturelaw19_IrWrites.l0 (k + 1) y0 y1 y2 y3 y4 y5 y6 y7 y8))
  | 0 => fun _ _ _ _ _ _ _ _ _ r h => by simp [tincturelaw19_IrWrites.l0] at h
  | k + 1 => by
    have ih0 := tincturelaw19_IrWrites.mono_l k
    · intro y0 y1 y2 y3 y4 y5 y6 y7 y8
      unfold tincturelaw19_IrWrites.l0
      repeat' first
      | (with_reducible exact ih0 _ _ _ _ _ _ _ _ _)
      | (with_reducible exact ir_Reads.mono _ _ _ _ _ _)
      | (with_reducible exact LeO.refl _)
      | (with_reducible exact LeO.none _)
      | (with_reducible refine LeO.ite ?_ ?_)
      | (with_reducible refine LeO.bind ?_ (fun _ => ?_))
      | exact ih0 _ _ _ _ _ _ _ _ _
      | exact ir_Reads.mono _ _ _ _ _ _
      | exact LeO.none _
      | refine LeO.ite ?_ ?_
      | refine LeO.bind ?_ (fun _ => ?_)
theorem tincturelaw19_IrWrites.mono : ∀ a0 a1 a2 a3 a4 k, LeO (tincturelaw19_IrWrites.f k a0 a1 a2 a3 a4) (tincturelaw19_IrWrites.f (k + 1) a0 a1 a2 a3 a4) := by
  intro a0 a1 a2 a3 a4 k
  have ih0 := tincturelaw19_IrWrites.mono_l k
  unfold tincturelaw19_IrWrites.f
  repeat' first
      | (with_reducible exact ih0 _ _ _ _ _ _ _ _ _)
      | (with_reducible exact ir_Reads.mono _ _ _ _ _ _)
      | (with_reducible exact LeO.refl _)
      | (with_reducible exact LeO.none _)
      | (with_reducible refine LeO.ite ?_ ?_)
      | (with_reducible refine LeO.bind ?_ (fun _ => ?_))
      | exact ih0 _ _ _ _ _ _ _ _ _
      | exact ir_Reads.mono _ _ _ _ _ _
      | exact LeO.none _
      | refine LeO.ite ?_ ?_
      | refine LeO.bind ?_ (fun _ => ?_)
set_option maxHeartbeats 8000000 in
set_option maxRecDepth 100000 in
theorem tincturelaw19_IrWrites.calls (k : Nat) (a0_0 : Int) (a0_1 : Int) (a0_2 : Int) (a0_3 : Int) (a0_4 : Int) (r : Bool) (w : World) (h : tincturelaw19_IrWrites.f k a0_0 a0_1 a0_2 a0_3 a0_4 = some r) :
    Calls Tryd.prog 7 #[.agg #[.int .i64 a0_0, .int .i64 a0_1, .int .i64 a0_2, .int .i64 a0_3, .int .u32 a0_4]] w fun e w' => e = .returned (.bool r) ∧ Below w.heap.size w w' := by
  have hu25 := Tryd.underlying25
  have HB := Aside0.mk (Below.refl w.heap.size w)
  have H : ((tincturelaw19_awake.f).bind fun t159 => (if t159 = true then ((ir_Writes.f a0_0 a0_1 a0_2 a0_3 a0_4).bind fun bt160 => ((ir_Reads.f k a0_0 a0_1 a0_2 a0_3 a0_4).bind fun t162 => (tincturelaw19_IrWrites.l0 k bt160.1 bt160.2 t162 0 a0_0 a0_1 a0_2 a0_3 a0_4))) else (some false))) = some r := h
  clear h
  replace H := Option.bind_eq_some_iff.mp H
  obtain ⟨t159, A20, H⟩ := H
  replace H : (if t159 = true then ((ir_Writes.f a0_0 a0_1 a0_2 a0_3 a0_4).bind fun bt160 => ((ir_Reads.f k a0_0 a0_1 a0_2 a0_3 a0_4).bind fun t162 => (tincturelaw19_IrWrites.l0 k bt160.1 bt160.2 t162 0 a0_0 a0_1 a0_2 a0_3 a0_4))) else (some false)) = some r := H
  have A2 := Aside0.mk A20
  clear A20
  by_cases c3 : t159 = true
  · subst c3
    have H1 : ((ir_Writes.f a0_0 a0_1 a0_2 a0_3 a0_4).bind fun bt160 => ((ir_Reads.f k a0_0 a0_1 a0_2 a0_3 a0_4).bind fun t162 => (tincturelaw19_IrWrites.l0 k bt160.1 bt160.2 t162 0 a0_0 a0_1 a0_2 a0_3 a0_4))) = some r := by rw [if_pos rfl] at H; exact H
    clear H
    have H := H1
    clear H1
    replace H := Option.bind_eq_some_iff.mp H
    obtain ⟨⟨t160, t161⟩, A40, H⟩ := H
    replace H : ((ir_Reads.f k a0_0 a0_1 a0_2 a0_3 a0_4).bind fun t162 => (tincturelaw19_IrWrites.l0 k t160 t161 t162 0 a0_0 a0_1 a0_2 a0_3 a0_4)) = some r := H
    have A4 := Aside0.mk A40
    clear A40
    replace H := Option.bind_eq_some_iff.mp H
    obtain ⟨t162, A50, H⟩ := H
    replace H : (tincturelaw19_IrWrites.l0 k t160 t161 t162 0 a0_0 a0_1 a0_2 a0_3 a0_4) = some r := H
    have A5 := Aside0.mk A50
    clear A50
    have H' := Aside0.mk H
    clear H
    go_enter Tryd.func7, Tryd.ntmps7
    go_wp2_with (first | ((with_reducible refine gate_dst (N := 1) rfl ?_); (try (refine gate_guard (by rfl) ?_; dsimp only)); refine box_event ?hg (N := 1) ?hd (cs := #[.int .i64 a0_0, .int .i64 a0_1, .int .i64 a0_2, .int .i64 a0_3, .int .u32 a0_4]) (t := 25) ?hr ?_; (case hd => rfl); (case hg => rfl); (case hr => first | (go_simp; done) | (go_simp; rfl)); intro gb158 hg w6 hbox hb; have n0_ := Aside0.mk (below_step (by repeat (first | (with_reducible first | exact HB.out | apply below_alloc | apply pw_below_drewN | apply below_drew1) | exact HB.out)) hb); have n1_ := Aside0.mk (hbox); have n2_ := Aside0.mk ((by rw [hg]; exact (below_size (by repeat (first | (with_reducible first | exact HB.out | apply below_alloc | apply pw_below_drewN | apply below_drew1) | exact HB.out))) : w.heap.size ≤ gb158)); have n3_ := Aside0.mk ((by rw [hg]; exact (below_size (by repeat (first | (with_reducible first | exact HB.out | apply below_alloc | apply pw_below_drewN | apply below_drew1) | exact HB.out))) : w.heap.size ≤ gb158)); clear HB; have HB := n0_; have BK158 := n1_; have GW158 := n2_; have GE158 := n3_; clear n0_ n1_ n2_ n3_; clear hb hbox hg) | (go_at_call 8; (with_reducible refine (tincturelaw19_awake.calls  true _ A2.out).mono ?_); rintro e w7 ⟨rfl, hb⟩; have n0_ := Aside0.mk (blk_below (g := gb158) (o := .cells #[.int .i64 a0_0, .int .i64 a0_1, .int .i64 a0_2, .int .i64 a0_3, .int .u32 a0_4] 25 (0, 0)) (by (with_reducible repeat (first | refine blk_drewN ?_ _ | refine blk_drew ?_ | refine blk_alloc ?_ _)); exact BK158.out) hb); have n1_ := Aside0.mk (below_step (by repeat (first | (with_reducible first | exact HB.out | apply below_alloc | apply pw_below_drewN | apply below_drew1 | refine below_set ?_ GE158.out) | exact HB.out)) hb); clear BK158; clear HB; have BK158 := n0_; have HB := n1_; clear n0_ n1_; (try clear hb); (try clear hb2); (try clear hk); (try clear hi); have hcz8_0 : w7.cell? ⟨gb158, 0, none⟩ = some (.int .i64 a0_0) := (blk_cell BK158.out 0).trans rfl; have hcz8_1 : w7.cell? ⟨gb158, 1, none⟩ = some (.int .i64 a0_1) := (blk_cell BK158.out 1).trans rfl; have hcz8_2 : w7.cell? ⟨gb158, 2, none⟩ = some (.int .i64 a0_2) := (blk_cell BK158.out 2).trans rfl; have hcz8_3 : w7.cell? ⟨gb158, 3, none⟩ = some (.int .i64 a0_3) := (blk_cell BK158.out 3).trans rfl; have hcz8_4 : w7.cell? ⟨gb158, 4, none⟩ = some (.int .u32 a0_4) := (blk_cell BK158.out 4).trans rfl; have hfz8_0 := blk_frozen BK158.out 0; have hfz8_1 := blk_frozen BK158.out 1; have hfz8_2 := blk_frozen BK158.out 2; have hfz8_3 := blk_frozen BK158.out 3; have hfz8_4 := blk_frozen BK158.out 4) | (go_at_call 9; (with_reducible refine (ir_Writes.calls a0_0 a0_1 a0_2 a0_3 a0_4 t160 t161 _ A4.out).mono ?_); rintro e w9 ⟨rfl, hb⟩; have n0_ := Aside0.mk (blk_below (g := gb158) (o := .cells #[.int .i64 a0_0, .int .i64 a0_1, .int .i64 a0_2, .int .i64 a0_3, .int .u32 a0_4] 25 (0, 0)) (by (with_reducible repeat (first | refine blk_drewN ?_ _ | refine blk_drew ?_ | refine blk_alloc ?_ _)); exact BK158.out) hb); have n1_ := Aside0.mk (below_step (by repeat (first | (with_reducible first | exact HB.out | apply below_alloc | apply pw_below_drewN | apply below_drew1 | refine below_set ?_ GE158.out) | exact HB.out)) hb); clear BK158; clear HB; have BK158 := n0_; have HB := n1_; clear n0_ n1_; (try clear hb); (try clear hb2); (try clear hk); (try clear hi); have hcz10_0 : w9.cell? ⟨gb158, 0, none⟩ = some (.int .i64 a0_0) := (blk_cell BK158.out 0).trans rfl; have hcz10_1 : w9.cell? ⟨gb158, 1, none⟩ = some (.int .i64 a0_1) := (blk_cell BK158.out 1).trans rfl; have hcz10_2 : w9.cell? ⟨gb158, 2, none⟩ = some (.int .i64 a0_2) := (blk_cell BK158.out 2).trans rfl; have hcz10_3 : w9.cell? ⟨gb158, 3, none⟩ = some (.int .i64 a0_3) := (blk_cell BK158.out 3).trans rfl; have hcz10_4 : w9.cell? ⟨gb158, 4, none⟩ = some (.int .u32 a0_4) := (blk_cell BK158.out 4).trans rfl; have hfz10_0 := blk_frozen BK158.out 0; have hfz10_1 := blk_frozen BK158.out 1; have hfz10_2 := blk_frozen BK158.out 2; have hfz10_3 := blk_frozen BK158.out 3; have hfz10_4 := blk_frozen BK158.out 4) | (go_at_call 10; (with_reducible refine (ir_Reads.calls k a0_0 a0_1 a0_2 a0_3 a0_4 t162 _ A5.out).mono ?_); rintro e w11 ⟨v163, rfl, ho0, hb⟩; have n0_ := Aside0.mk (Kd.R_lower ho0 (below_size (by repeat (first | (with_reducible first | exact HB.out | apply below_alloc | apply pw_below_drewN | apply below_drew1 | refine below_set ?_ GE158.out) | exact HB.out)))); have n1_ := Aside0.mk (blk_below (g := gb158) (o := .cells #[.int .i64 a0_0, .int .i64 a0_1, .int .i64 a0_2, .int .i64 a0_3, .int .u32 a0_4] 25 (0, 0)) (by (with_reducible repeat (first | refine blk_drewN ?_ _ | refine blk_drew ?_ | refine blk_alloc ?_ _)); exact BK158.out) hb); have n2_ := Aside0.mk (below_step (by repeat (first | (with_reducible first | exact HB.out | apply below_alloc | apply pw_below_drewN | apply below_drew1 | refine below_set ?_ GE158.out) | exact HB.out)) hb); clear BK158; clear HB; have HO164 := n0_; have BK158 := n1_; have HB := n2_; clear n0_ n1_ n2_; (try clear hb); (try clear hb2); (try clear hk); (try clear hi); (try clear ho0)))
    repeat (go_quiet (first | ((with_reducible refine gate_dst (N := 1) rfl ?_); (try (refine gate_guard (by rfl) ?_; dsimp only)); refine box_event ?hg (N := 1) ?hd (cs := #[.int .i64 a0_0, .int .i64 a0_1, .int .i64 a0_2, .int .i64 a0_3, .int .u32 a0_4]) (t := 25) ?hr ?_; (case hd => rfl); (case hg => rfl); (case hr => first | (go_simp; done) | (go_simp; rfl)); intro gb158 hg w6 hbox hb; have n0_ := Aside0.mk (below_step (by repeat (first | (with_reducible first | exact HB.out | apply below_alloc | apply pw_below_drewN | apply below_drew1) | exact HB.out)) hb); have n1_ := Aside0.mk (hbox); have n2_ := Aside0.mk ((by rw [hg]; exact (below_size (by repeat (first | (with_reducible first | exact HB.out | apply below_alloc | apply pw_below_drewN | apply below_drew1) | exact HB.out))) : w.heap.size ≤ gb158)); have n3_ := Aside0.mk ((by rw [hg]; exact (below_size (by repeat (first | (with_reducible first | exact HB.out | apply below_alloc | apply pw_below_drewN | apply below_drew1) | exact HB.out))) : w.heap.size ≤ gb158)); clear HB; have HB := n0_; have BK158 := n1_; have GW158 := n2_; have GE158 := n3_; clear n0_ n1_ n2_ n3_; clear hb hbox hg) | (go_at_call 8; (with_reducible refine (tincturelaw19_awake.calls  true _ A2.out).mono ?_); rintro e w7 ⟨rfl, hb⟩; have n0_ := Aside0.mk (blk_below (g := gb158) (o := .cells #[.int .i64 a0_0, .int .i64 a0_1, .int .i64 a0_2, .int .i64 a0_3, .int .u32 a0_4] 25 (0, 0)) (by (with_reducible repeat (first | refine blk_drewN ?_ _ | refine blk_drew ?_ | refine blk_alloc ?_ _)); exact BK158.out) hb); have n1_ := Aside0.mk (below_step (by repeat (first | (with_reducible first | exact HB.out | apply below_alloc | apply pw_below_drewN | apply below_drew1 | refine below_set ?_ GE158.out) | exact HB.out)) hb); clear BK158; clear HB; have BK158 := n0_; have HB := n1_; clear n0_ n1_; (try clear hb); (try clear hb2); (try clear hk); (try clear hi); have hcz8_0 : w7.cell? ⟨gb158, 0, none⟩ = some (.int .i64 a0_0) := (blk_cell BK158.out 0).trans rfl; have hcz8_1 : w7.cell? ⟨gb158, 1, none⟩ = some (.int .i64 a0_1) := (blk_cell BK158.out 1).trans rfl; have hcz8_2 : w7.cell? ⟨gb158, 2, none⟩ = some (.int .i64 a0_2) := (blk_cell BK158.out 2).trans rfl; have hcz8_3 : w7.cell? ⟨gb158, 3, none⟩ = some (.int .i64 a0_3) := (blk_cell BK158.out 3).trans rfl; have hcz8_4 : w7.cell? ⟨gb158, 4, none⟩ = some (.int .u32 a0_4) := (blk_cell BK158.out 4).trans rfl; have hfz8_0 := blk_frozen BK158.out 0; have hfz8_1 := blk_frozen BK158.out 1; have hfz8_2 := blk_frozen BK158.out 2; have hfz8_3 := blk_frozen BK158.out 3; have hfz8_4 := blk_frozen BK158.out 4) | (go_at_call 9; (with_reducible refine (ir_Writes.calls a0_0 a0_1 a0_2 a0_3 a0_4 t160 t161 _ A4.out).mono ?_); rintro e w9 ⟨rfl, hb⟩; have n0_ := Aside0.mk (blk_below (g := gb158) (o := .cells #[.int .i64 a0_0, .int .i64 a0_1, .int .i64 a0_2, .int .i64 a0_3, .int .u32 a0_4] 25 (0, 0)) (by (with_reducible repeat (first | refine blk_drewN ?_ _ | refine blk_drew ?_ | refine blk_alloc ?_ _)); exact BK158.out) hb); have n1_ := Aside0.mk (below_step (by repeat (first | (with_reducible first | exact HB.out | apply below_alloc | apply pw_below_drewN | apply below_drew1 | refine below_set ?_ GE158.out) | exact HB.out)) hb); clear BK158; clear HB; have BK158 := n0_; have HB := n1_; clear n0_ n1_; (try clear hb); (try clear hb2); (try clear hk); (try clear hi); have hcz10_0 : w9.cell? ⟨gb158, 0, none⟩ = some (.int .i64 a0_0) := (blk_cell BK158.out 0).trans rfl; have hcz10_1 : w9.cell? ⟨gb158, 1, none⟩ = some (.int .i64 a0_1) := (blk_cell BK158.out 1).trans rfl; have hcz10_2 : w9.cell? ⟨gb158, 2, none⟩ = some (.int .i64 a0_2) := (blk_cell BK158.out 2).trans rfl; have hcz10_3 : w9.cell? ⟨gb158, 3, none⟩ = some (.int .i64 a0_3) := (blk_cell BK158.out 3).trans rfl; have hcz10_4 : w9.cell? ⟨gb158, 4, none⟩ = some (.int .u32 a0_4) := (blk_cell BK158.out 4).trans rfl; have hfz10_0 := blk_frozen BK158.out 0; have hfz10_1 := blk_frozen BK158.out 1; have hfz10_2 := blk_frozen BK158.out 2; have hfz10_3 := blk_frozen BK158.out 3; have hfz10_4 := blk_frozen BK158.out 4) | (go_at_call 10; (with_reducible refine (ir_Reads.calls k a0_0 a0_1 a0_2 a0_3 a0_4 t162 _ A5.out).mono ?_); rintro e w11 ⟨v163, rfl, ho0, hb⟩; have n0_ := Aside0.mk (Kd.R_lower ho0 (below_size (by repeat (first | (with_reducible first | exact HB.out | apply below_alloc | apply pw_below_drewN | apply below_drew1 | refine below_set ?_ GE158.out) | exact HB.out)))); have n1_ := Aside0.mk (blk_below (g := gb158) (o := .cells #[.int .i64 a0_0, .int .i64 a0_1, .int .i64 a0_2, .int .i64 a0_3, .int .u32 a0_4] 25 (0, 0)) (by (with_reducible repeat (first | refine blk_drewN ?_ _ | refine blk_drew ?_ | refine blk_alloc ?_ _)); exact BK158.out) hb); have n2_ := Aside0.mk (below_step (by repeat (first | (with_reducible first | exact HB.out | apply below_alloc | apply pw_below_drewN | apply below_drew1 | refine below_set ?_ GE158.out) | exact HB.out)) hb); clear BK158; clear HB; have HO164 := n0_; have BK158 := n1_; have HB := n2_; clear n0_ n1_ n2_; (try clear hb); (try clear hb2); (try clear hk); (try clear hi); (try clear ho0))); try go_wp2_with (first | ((with_reducible refine gate_dst (N := 1) rfl ?_); (try (refine gate_guard (by rfl) ?_; dsimp only)); refine box_event ?hg (N := 1) ?hd (cs := #[.int .i64 a0_0, .int .i64 a0_1, .int .i64 a0_2, .int .i64 a0_3, .int .u32 a0_4]) (t := 25) ?hr ?_; (case hd => rfl); (case hg => rfl); (case hr => first | (go_simp; done) | (go_simp; rfl)); intro gb158 hg w6 hbox hb; have n0_ := Aside0.mk (below_step (by repeat (first | (with_reducible first | exact HB.out | apply below_alloc | apply pw_below_drewN | apply below_drew1) | exact HB.out)) hb); have n1_ := Aside0.mk (hbox); have n2_ := Aside0.mk ((by rw [hg]; exact (below_size (by repeat (first | (with_reducible first | exact HB.out | apply below_alloc | apply pw_below_drewN | apply below_drew1) | exact HB.out))) : w.heap.size ≤ gb158)); have n3_ := Aside0.mk ((by rw [hg]; exact (below_size (by repeat (first | (with_reducible first | exact HB.out | apply below_alloc | apply pw_below_drewN | apply below_drew1) | exact HB.out))) : w.heap.size ≤ gb158)); clear HB; have HB := n0_; have BK158 := n1_; have GW158 := n2_; have GE158 := n3_; clear n0_ n1_ n2_ n3_; clear hb hbox hg) | (go_at_call 8; (with_reducible refine (tincturelaw19_awake.calls  true _ A2.out).mono ?_); rintro e w7 ⟨rfl, hb⟩; have n0_ := Aside0.mk (blk_below (g := gb158) (o := .cells #[.int .i64 a0_0, .int .i64 a0_1, .int .i64 a0_2, .int .i64 a0_3, .int .u32 a0_4] 25 (0, 0)) (by (with_reducible repeat (first | refine blk_drewN ?_ _ | refine blk_drew ?_ | refine blk_alloc ?_ _)); exact BK158.out) hb); have n1_ := Aside0.mk (below_step (by repeat (first | (with_reducible first | exact HB.out | apply below_alloc | apply pw_below_drewN | apply below_drew1 | refine below_set ?_ GE158.out) | exact HB.out)) hb); clear BK158; clear HB; have BK158 := n0_; have HB := n1_; clear n0_ n1_; (try clear hb); (try clear hb2); (try clear hk); (try clear hi); have hcz8_0 : w7.cell? ⟨gb158, 0, none⟩ = some (.int .i64 a0_0) := (blk_cell BK158.out 0).trans rfl; have hcz8_1 : w7.cell? ⟨gb158, 1, none⟩ = some (.int .i64 a0_1) := (blk_cell BK158.out 1).trans rfl; have hcz8_2 : w7.cell? ⟨gb158, 2, none⟩ = some (.int .i64 a0_2) := (blk_cell BK158.out 2).trans rfl; have hcz8_3 : w7.cell? ⟨gb158, 3, none⟩ = some (.int .i64 a0_3) := (blk_cell BK158.out 3).trans rfl; have hcz8_4 : w7.cell? ⟨gb158, 4, none⟩ = some (.int .u32 a0_4) := (blk_cell BK158.out 4).trans rfl; have hfz8_0 := blk_frozen BK158.out 0; have hfz8_1 := blk_frozen BK158.out 1; have hfz8_2 := blk_frozen BK158.out 2; have hfz8_3 := blk_frozen BK158.out 3; have hfz8_4 := blk_frozen BK158.out 4) | (go_at_call 9; (with_reducible refine (ir_Writes.calls a0_0 a0_1 a0_2 a0_3 a0_4 t160 t161 _ A4.out).mono ?_); rintro e w9 ⟨rfl, hb⟩; have n0_ := Aside0.mk (blk_below (g := gb158) (o := .cells #[.int .i64 a0_0, .int .i64 a0_1, .int .i64 a0_2, .int .i64 a0_3, .int .u32 a0_4] 25 (0, 0)) (by (with_reducible repeat (first | refine blk_drewN ?_ _ | refine blk_drew ?_ | refine blk_alloc ?_ _)); exact BK158.out) hb); have n1_ := Aside0.mk (below_step (by repeat (first | (with_reducible first | exact HB.out | apply below_alloc | apply pw_below_drewN | apply below_drew1 | refine below_set ?_ GE158.out) | exact HB.out)) hb); clear BK158; clear HB; have BK158 := n0_; have HB := n1_; clear n0_ n1_; (try clear hb); (try clear hb2); (try clear hk); (try clear hi); have hcz10_0 : w9.cell? ⟨gb158, 0, none⟩ = some (.int .i64 a0_0) := (blk_cell BK158.out 0).trans rfl; have hcz10_1 : w9.cell? ⟨gb158, 1, none⟩ = some (.int .i64 a0_1) := (blk_cell BK158.out 1).trans rfl; have hcz10_2 : w9.cell? ⟨gb158, 2, none⟩ = some (.int .i64 a0_2) := (blk_cell BK158.out 2).trans rfl; have hcz10_3 : w9.cell? ⟨gb158, 3, none⟩ = some (.int .i64 a0_3) := (blk_cell BK158.out 3).trans rfl; have hcz10_4 : w9.cell? ⟨gb158, 4, none⟩ = some (.int .u32 a0_4) := (blk_cell BK158.out 4).trans rfl; have hfz10_0 := blk_frozen BK158.out 0; have hfz10_1 := blk_frozen BK158.out 1; have hfz10_2 := blk_frozen BK158.out 2; have hfz10_3 := blk_frozen BK158.out 3; have hfz10_4 := blk_frozen BK158.out 4) | (go_at_call 10; (with_reducible refine (ir_Reads.calls k a0_0 a0_1 a0_2 a0_3 a0_4 t162 _ A5.out).mono ?_); rintro e w11 ⟨v163, rfl, ho0, hb⟩; have n0_ := Aside0.mk (Kd.R_lower ho0 (below_size (by repeat (first | (with_reducible first | exact HB.out | apply below_alloc | apply pw_below_drewN | apply below_drew1 | refine below_set ?_ GE158.out) | exact HB.out)))); have n1_ := Aside0.mk (blk_below (g := gb158) (o := .cells #[.int .i64 a0_0, .int .i64 a0_1, .int .i64 a0_2, .int .i64 a0_3, .int .u32 a0_4] 25 (0, 0)) (by (with_reducible repeat (first | refine blk_drewN ?_ _ | refine blk_drew ?_ | refine blk_alloc ?_ _)); exact BK158.out) hb); have n2_ := Aside0.mk (below_step (by repeat (first | (with_reducible first | exact HB.out | apply below_alloc | apply pw_below_drewN | apply below_drew1 | refine below_set ?_ GE158.out) | exact HB.out)) hb); clear BK158; clear HB; have HO164 := n0_; have BK158 := n1_; have HB := n2_; clear n0_ n1_ n2_; (try clear hb); (try clear hb2); (try clear hk); (try clear hi); (try clear ho0))))
    go_loopg [6] k (fun kq v6 w' => ∃ (x6_1 : Int), v6 = .int .i64 x6_1 ∧ Aside0 (tincturelaw19_IrWrites.l0 kq t160 t161 t162 x6_1 a0_0 a0_1 a0_2 a0_3 a0_4 = some r) ∧ Aside0 (kq ≤ k) ∧ Aside0 (Kd.R (Kd.int .i64) 3 w' w.heap.size (fun _ => True) v163 t162) ∧ Aside0 (w'.heap[gb158]? = some (.cells #[.int .i64 a0_0, .int .i64 a0_1, .int .i64 a0_2, .int .i64 a0_3, .int .u32 a0_4] 25 (0, 0))) ∧ Aside0 (Below w.heap.size w w'))
    case atStart => exact ⟨(0), (by first | rfl | (simp; done) | (simp [*]; done)), H', ⟨Nat.le_refl _⟩, ⟨by (with_reducible repeat (first | apply Kd.R_alloc | apply Kd.R_drewN | apply Kd.R_drew)); exact HO164.out⟩, ⟨by (with_reducible repeat (first | refine blk_drewN ?_ _ | refine blk_drew ?_ | refine blk_alloc ?_ _)); exact BK158.out⟩, ⟨by repeat (first | (with_reducible first | exact HB.out | apply below_alloc | apply pw_below_drewN | apply below_drew1 | refine below_set ?_ GE158.out) | exact HB.out)⟩⟩
    case round =>
      clear H'
      try clear p2
      try clear c3
      try clear c7
      try clear hcz10_0
      try clear hcz10_1
      try clear hcz10_2
      try clear hcz10_3
      try clear hcz10_4
      try clear hcz8_0
      try clear hcz8_1
      try clear hcz8_2
      try clear hcz8_3
      try clear hcz8_4
      try clear hfz10_0
      try clear hfz10_1
      try clear hfz10_2
      try clear hfz10_3
      try clear hfz10_4
      try clear hfz8_0
      try clear hfz8_1
      try clear hfz8_2
      try clear hfz8_3
      try clear hfz8_4
      obtain ⟨x6_1, rfl, HA, HK1, HO_5, BK158, HB⟩ := hrel
      cases gk with
      | zero => exact absurd HA.out (by simp [tincturelaw19_IrWrites.l0])
      | succ k1 =>
        have H := HA.out
        clear HA
        simp only [tincturelaw19_IrWrites.l0] at H
        by_cases c12 : x6_1 < (t162.length : Int)
        · rw [if_pos c12] at H
          have c12b0 : decide (x6_1 < (t162.length : Int)) = true := decide_eq_true c12
          clear c12
          by_cases c13 : 0 ≤ x6_1
          · rw [if_pos c13] at H
            have c13b0 : decide (0 ≤ x6_1) = true := decide_eq_true c13
            clear c13
            by_cases c14 : (rd t162 x6_1) = a0_2
            · rw [if_pos c14] at H
              have c14b0 : ((rd t162 x6_1) == a0_2) = true := beq_iff_eq.mpr c14
              have c14b1 : ((rd t162 x6_1) != a0_2) = false := bne_eq_false_iff_eq.mpr c14
              clear c14
              have H' := Aside0.mk H
              clear H
              obtain ⟨Ao15, co15, eo15⟩ := Kd.R_slice HO_5.out
              subst eo15
              have p165 : 0 ≤ (x6_1 : Int) := of_decide_eq_true (by first | (with_reducible assumption) | assumption)
              have q165 : x6_1 < (t162.length : Int) := of_decide_eq_true (by first | (with_reducible assumption) | assumption)
              obtain ⟨ad165, e165, hx165_0⟩ := Kd.at_int (Kd.R_reads' HO_5.out).2.2 x6_1 p165 q165
              cases e165
              replace p165 := eq_true p165
              replace q165 := eq_true q165
              have hcz16_0 : wr.cell? ⟨gb158, 0, none⟩ = some (.int .i64 a0_0) := (blk_cell BK158.out 0).trans rfl
              have hcz16_1 : wr.cell? ⟨gb158, 1, none⟩ = some (.int .i64 a0_1) := (blk_cell BK158.out 1).trans rfl
              have hcz16_2 : wr.cell? ⟨gb158, 2, none⟩ = some (.int .i64 a0_2) := (blk_cell BK158.out 2).trans rfl
              have hcz16_3 : wr.cell? ⟨gb158, 3, none⟩ = some (.int .i64 a0_3) := (blk_cell BK158.out 3).trans rfl
              have hcz16_4 : wr.cell? ⟨gb158, 4, none⟩ = some (.int .u32 a0_4) := (blk_cell BK158.out 4).trans rfl
              have hfz16_0 := blk_frozen BK158.out 0
              have hfz16_1 := blk_frozen BK158.out 1
              have hfz16_2 := blk_frozen BK158.out 2
              have hfz16_3 := blk_frozen BK158.out 3
              have hfz16_4 := blk_frozen BK158.out 4
              go_wp2
              repeat (go_quiet (fail); try go_wp2)
              go_roundg k1
              case measure => have := HK1.out; omega
              case rel => exact ⟨(wrap64 (x6_1 + 1)), (by first | rfl | (simp; done) | (simp [*]; done)), H', ⟨by have := HK1.out; omega⟩, ⟨by (with_reducible repeat (first | apply Kd.R_alloc | apply Kd.R_drewN | apply Kd.R_drew)); exact HO_5.out⟩, ⟨by (with_reducible repeat (first | refine blk_drewN ?_ _ | refine blk_drew ?_ | refine blk_alloc ?_ _)); exact BK158.out⟩, ⟨by repeat (first | (with_reducible first | exact HB.out | apply below_alloc | apply pw_below_drewN | apply below_drew1 | refine below_set ?_ GE158.out) | exact HB.out)⟩⟩
            · rw [if_neg c14] at H
              have c14b0 : ((rd t162 x6_1) == a0_2) = false := beq_eq_false_iff_ne.mpr c14
              have c14b1 : ((rd t162 x6_1) != a0_2) = true := bne_iff_ne.mpr c14
              by_cases c17 : (rd t162 x6_1) = a0_3
              · rw [if_pos c17] at H
                have c17b0 : ((rd t162 x6_1) == a0_3) = true := beq_iff_eq.mpr c17
                have c17b1 : ((rd t162 x6_1) != a0_3) = false := bne_eq_false_iff_eq.mpr c17
                clear c17
                have H' := Aside0.mk H
                clear H
                obtain ⟨Ao18, co18, eo18⟩ := Kd.R_slice HO_5.out
                subst eo18
                have p165 : 0 ≤ (x6_1 : Int) := of_decide_eq_true (by first | (with_reducible assumption) | assumption)
                have q165 : x6_1 < (t162.length : Int) := of_decide_eq_true (by first | (with_reducible assumption) | assumption)
                obtain ⟨ad165, e165, hx165_0⟩ := Kd.at_int (Kd.R_reads' HO_5.out).2.2 x6_1 p165 q165
                cases e165
                replace p165 := eq_true p165
                replace q165 := eq_true q165
                have hcz19_0 : wr.cell? ⟨gb158, 0, none⟩ = some (.int .i64 a0_0) := (blk_cell BK158.out 0).trans rfl
                have hcz19_1 : wr.cell? ⟨gb158, 1, none⟩ = some (.int .i64 a0_1) := (blk_cell BK158.out 1).trans rfl
                have hcz19_2 : wr.cell? ⟨gb158, 2, none⟩ = some (.int .i64 a0_2) := (blk_cell BK158.out 2).trans rfl
                have hcz19_3 : wr.cell? ⟨gb158, 3, none⟩ = some (.int .i64 a0_3) := (blk_cell BK158.out 3).trans rfl
                have hcz19_4 : wr.cell? ⟨gb158, 4, none⟩ = some (.int .u32 a0_4) := (blk_cell BK158.out 4).trans rfl
                have hfz19_0 := blk_frozen BK158.out 0
                have hfz19_1 := blk_frozen BK158.out 1
                have hfz19_2 := blk_frozen BK158.out 2
                have hfz19_3 := blk_frozen BK158.out 3
                have hfz19_4 := blk_frozen BK158.out 4
                have p166 : 0 ≤ (x6_1 : Int) := of_decide_eq_true (by first | (with_reducible assumption) | assumption)
                have q166 : x6_1 < (t162.length : Int) := of_decide_eq_true (by first | (with_reducible assumption) | assumption)
                obtain ⟨ad166, e166, hx166_0⟩ := Kd.at_int (Kd.R_reads' HO_5.out).2.2 x6_1 p166 q166
                obtain rfl : ad165 = ad166 := (by injection e166)
                replace p166 := eq_true p166
                replace q166 := eq_true q166
                go_wp2
                repeat (go_quiet (fail); try go_wp2)
                go_roundg k1
                case measure => have := HK1.out; omega
                case rel => exact ⟨(wrap64 (x6_1 + 1)), (by first | rfl | (simp; done) | (simp [*]; done)), H', ⟨by have := HK1.out; omega⟩, ⟨by (with_reducible repeat (first | apply Kd.R_alloc | apply Kd.R_drewN | apply Kd.R_drew)); exact HO_5.out⟩, ⟨by (with_reducible repeat (first | refine blk_drewN ?_ _ | refine blk_drew ?_ | refine blk_alloc ?_ _)); exact BK158.out⟩, ⟨by repeat (first | (with_reducible first | exact HB.out | apply below_alloc | apply pw_below_drewN | apply below_drew1 | refine below_set ?_ GE158.out) | exact HB.out)⟩⟩
              · rw [if_neg c17] at H
                have c17b0 : ((rd t162 x6_1) == a0_3) = false := beq_eq_false_iff_ne.mpr c17
                have c17b1 : ((rd t162 x6_1) != a0_3) = true := bne_iff_ne.mpr c17
                by_cases c20 : a0_0 = 19
                · rw [if_pos c20] at H
                  have c20b0 : (a0_0 == 19) = true := beq_iff_eq.mpr c20
                  have c20b1 : (a0_0 != 19) = false := bne_eq_false_iff_eq.mpr c20
                  clear c20
                  by_cases c21 : (rd t162 x6_1) = a0_1
                  · rw [if_pos c21] at H
                    have c21b0 : ((rd t162 x6_1) == a0_1) = true := beq_iff_eq.mpr c21
                    have c21b1 : ((rd t162 x6_1) != a0_1) = false := bne_eq_false_iff_eq.mpr c21
                    clear c21
                    have H' := Aside0.mk H
                    clear H
                    obtain ⟨Ao22, co22, eo22⟩ := Kd.R_slice HO_5.out
                    subst eo22
                    have p165 : 0 ≤ (x6_1 : Int) := of_decide_eq_true (by first | (with_reducible assumption) | assumption)
                    have q165 : x6_1 < (t162.length : Int) := of_decide_eq_true (by first | (with_reducible assumption) | assumption)
                    obtain ⟨ad165, e165, hx165_0⟩ := Kd.at_int (Kd.R_reads' HO_5.out).2.2 x6_1 p165 q165
                    cases e165
                    replace p165 := eq_true p165
                    replace q165 := eq_true q165
                    have hcz23_0 : wr.cell? ⟨gb158, 0, none⟩ = some (.int .i64 a0_0) := (blk_cell BK158.out 0).trans rfl
                    have hcz23_1 : wr.cell? ⟨gb158, 1, none⟩ = some (.int .i64 a0_1) := (blk_cell BK158.out 1).trans rfl
                    have hcz23_2 : wr.cell? ⟨gb158, 2, none⟩ = some (.int .i64 a0_2) := (blk_cell BK158.out 2).trans rfl
                    have hcz23_3 : wr.cell? ⟨gb158, 3, none⟩ = some (.int .i64 a0_3) := (blk_cell BK158.out 3).trans rfl
                    have hcz23_4 : wr.cell? ⟨gb158, 4, none⟩ = some (.int .u32 a0_4) := (blk_cell BK158.out 4).trans rfl
                    have hfz23_0 := blk_frozen BK158.out 0
                    have hfz23_1 := blk_frozen BK158.out 1
                    have hfz23_2 := blk_frozen BK158.out 2
                    have hfz23_3 := blk_frozen BK158.out 3
                    have hfz23_4 := blk_frozen BK158.out 4
                    have p166 : 0 ≤ (x6_1 : Int) := of_decide_eq_true (by first | (with_reducible assumption) | assumption)
                    have q166 : x6_1 < (t162.length : Int) := of_decide_eq_true (by first | (with_reducible assumption) | assumption)
                    obtain ⟨ad166, e166, hx166_0⟩ := Kd.at_int (Kd.R_reads' HO_5.out).2.2 x6_1 p166 q166
                    obtain rfl : ad165 = ad166 := (by injection e166)
                    replace p166 := eq_true p166
                    replace q166 := eq_true q166
                    have p167 : 0 ≤ (x6_1 : Int) := of_decide_eq_true (by first | (with_reducible assumption) | assumption)
                    have q167 : x6_1 < (t162.length : Int) := of_decide_eq_true (by first | (with_reducible assumption) | assumption)
                    obtain ⟨ad167, e167, hx167_0⟩ := Kd.at_int (Kd.R_reads' HO_5.out).2.2 x6_1 p167 q167
                    obtain rfl : ad165 = ad167 := (by injection e167)
                    replace p167 := eq_true p167
                    replace q167 := eq_true q167
                    go_wp2
                    repeat (go_quiet (fail); try go_wp2)
                    go_roundg k1
                    case measure => have := HK1.out; omega
                    case rel => exact ⟨(wrap64 (x6_1 + 1)), (by first | rfl | (simp; done) | (simp [*]; done)), H', ⟨by have := HK1.out; omega⟩, ⟨by (with_reducible repeat (first | apply Kd.R_alloc | apply Kd.R_drewN | apply Kd.R_drew)); exact HO_5.out⟩, ⟨by (with_reducible repeat (first | refine blk_drewN ?_ _ | refine blk_drew ?_ | refine blk_alloc ?_ _)); exact BK158.out⟩, ⟨by repeat (first | (with_reducible first | exact HB.out | apply below_alloc | apply pw_below_drewN | apply below_drew1 | refine below_set ?_ GE158.out) | exact HB.out)⟩⟩
                  · rw [if_neg c21] at H
                    have c21b0 : ((rd t162 x6_1) == a0_1) = false := beq_eq_false_iff_ne.mpr c21
                    have c21b1 : ((rd t162 x6_1) != a0_1) = true := bne_iff_ne.mpr c21
                    obtain rfl := Option.some.inj H
                    obtain ⟨Ao24, co24, eo24⟩ := Kd.R_slice HO_5.out
                    subst eo24
                    have p165 : 0 ≤ (x6_1 : Int) := of_decide_eq_true (by first | (with_reducible assumption) | assumption)
                    have q165 : x6_1 < (t162.length : Int) := of_decide_eq_true (by first | (with_reducible assumption) | assumption)
                    obtain ⟨ad165, e165, hx165_0⟩ := Kd.at_int (Kd.R_reads' HO_5.out).2.2 x6_1 p165 q165
                    cases e165
                    replace p165 := eq_true p165
                    replace q165 := eq_true q165
                    have hcz25_0 : wr.cell? ⟨gb158, 0, none⟩ = some (.int .i64 a0_0) := (blk_cell BK158.out 0).trans rfl
                    have hcz25_1 : wr.cell? ⟨gb158, 1, none⟩ = some (.int .i64 a0_1) := (blk_cell BK158.out 1).trans rfl
                    have hcz25_2 : wr.cell? ⟨gb158, 2, none⟩ = some (.int .i64 a0_2) := (blk_cell BK158.out 2).trans rfl
                    have hcz25_3 : wr.cell? ⟨gb158, 3, none⟩ = some (.int .i64 a0_3) := (blk_cell BK158.out 3).trans rfl
                    have hcz25_4 : wr.cell? ⟨gb158, 4, none⟩ = some (.int .u32 a0_4) := (blk_cell BK158.out 4).trans rfl
                    have hfz25_0 := blk_frozen BK158.out 0
                    have hfz25_1 := blk_frozen BK158.out 1
                    have hfz25_2 := blk_frozen BK158.out 2
                    have hfz25_3 := blk_frozen BK158.out 3
                    have hfz25_4 := blk_frozen BK158.out 4
                    have p166 : 0 ≤ (x6_1 : Int) := of_decide_eq_true (by first | (with_reducible assumption) | assumption)
                    have q166 : x6_1 < (t162.length : Int) := of_decide_eq_true (by first | (with_reducible assumption) | assumption)
                    obtain ⟨ad166, e166, hx166_0⟩ := Kd.at_int (Kd.R_reads' HO_5.out).2.2 x6_1 p166 q166
                    obtain rfl : ad165 = ad166 := (by injection e166)
                    replace p166 := eq_true p166
                    replace q166 := eq_true q166
                    have p167 : 0 ≤ (x6_1 : Int) := of_decide_eq_true (by first | (with_reducible assumption) | assumption)
                    have q167 : x6_1 < (t162.length : Int) := of_decide_eq_true (by first | (with_reducible assumption) | assumption)
                    obtain ⟨ad167, e167, hx167_0⟩ := Kd.at_int (Kd.R_reads' HO_5.out).2.2 x6_1 p167 q167
                    obtain rfl : ad165 = ad167 := (by injection e167)
                    replace p167 := eq_true p167
                    replace q167 := eq_true q167
                    go_wp2
                    repeat (go_quiet (fail); try go_wp2)
                    go_ret
                    exact ⟨by first | rfl | (simp [errW_none, errW_some] <;> rfl) | (simp [*, errW_none, errW_some] <;> rfl), by repeat (first | (with_reducible first | exact HB.out | apply below_alloc | apply pw_below_drewN | apply below_drew1 | refine below_set ?_ GE158.out) | exact HB.out)⟩
                · rw [if_neg c20] at H
                  have c20b0 : (a0_0 == 19) = false := beq_eq_false_iff_ne.mpr c20
                  have c20b1 : (a0_0 != 19) = true := bne_iff_ne.mpr c20
                  obtain rfl := Option.some.inj H
                  obtain ⟨Ao26, co26, eo26⟩ := Kd.R_slice HO_5.out
                  subst eo26
                  have p165 : 0 ≤ (x6_1 : Int) := of_decide_eq_true (by first | (with_reducible assumption) | assumption)
                  have q165 : x6_1 < (t162.length : Int) := of_decide_eq_true (by first | (with_reducible assumption) | assumption)
                  obtain ⟨ad165, e165, hx165_0⟩ := Kd.at_int (Kd.R_reads' HO_5.out).2.2 x6_1 p165 q165
                  cases e165
                  replace p165 := eq_true p165
                  replace q165 := eq_true q165
                  have hcz27_0 : wr.cell? ⟨gb158, 0, none⟩ = some (.int .i64 a0_0) := (blk_cell BK158.out 0).trans rfl
                  have hcz27_1 : wr.cell? ⟨gb158, 1, none⟩ = some (.int .i64 a0_1) := (blk_cell BK158.out 1).trans rfl
                  have hcz27_2 : wr.cell? ⟨gb158, 2, none⟩ = some (.int .i64 a0_2) := (blk_cell BK158.out 2).trans rfl
                  have hcz27_3 : wr.cell? ⟨gb158, 3, none⟩ = some (.int .i64 a0_3) := (blk_cell BK158.out 3).trans rfl
                  have hcz27_4 : wr.cell? ⟨gb158, 4, none⟩ = some (.int .u32 a0_4) := (blk_cell BK158.out 4).trans rfl
                  have hfz27_0 := blk_frozen BK158.out 0
                  have hfz27_1 := blk_frozen BK158.out 1
                  have hfz27_2 := blk_frozen BK158.out 2
                  have hfz27_3 := blk_frozen BK158.out 3
                  have hfz27_4 := blk_frozen BK158.out 4
                  have p166 : 0 ≤ (x6_1 : Int) := of_decide_eq_true (by first | (with_reducible assumption) | assumption)
                  have q166 : x6_1 < (t162.length : Int) := of_decide_eq_true (by first | (with_reducible assumption) | assumption)
                  obtain ⟨ad166, e166, hx166_0⟩ := Kd.at_int (Kd.R_reads' HO_5.out).2.2 x6_1 p166 q166
                  obtain rfl : ad165 = ad166 := (by injection e166)
                  replace p166 := eq_true p166
                  replace q166 := eq_true q166
                  go_wp2
                  repeat (go_quiet (fail); try go_wp2)
                  go_ret
                  exact ⟨by first | rfl | (simp [errW_none, errW_some] <;> rfl) | (simp [*, errW_none, errW_some] <;> rfl), by repeat (first | (with_reducible first | exact HB.out | apply below_alloc | apply pw_below_drewN | apply below_drew1 | refine below_set ?_ GE158.out) | exact HB.out)⟩
          · rw [if_neg c13] at H
            exact absurd H (by simp)
        · rw [if_neg c12] at H
          have c12b0 : decide (x6_1 < (t162.length : Int)) = false := decide_eq_false c12
          clear c12
          by_cases c28 : a0_0 = 1
          · rw [if_pos c28] at H
            have c28b0 : (a0_0 == 1) = true := beq_iff_eq.mpr c28
            have c28b1 : (a0_0 != 1) = false := bne_eq_false_iff_eq.mpr c28
            clear c28
            by_cases c29 : (t161 == true) = true
            · rw [if_pos c29] at H
              have c29b0 : (t161 == true) = true := c29
              (try (have c29b1 : decide (t161 = true) = true := by simpa using c29))
              (try (have c29b2 : (t161 == true) = true := by simpa using c29))
              clear c29
              by_cases c30 : t161 = true
              · subst c30
                have H1 : (if t160 = a0_1 then (some (decide ((t162.length : Int) ≤ 2))) else (some false)) = some r := by rw [if_pos rfl] at H; exact H
                clear H
                have H := H1
                clear H1
                by_cases c31 : t160 = a0_1
                · rw [if_pos c31] at H
                  have c31b0 : (t160 == a0_1) = true := beq_iff_eq.mpr c31
                  have c31b1 : (t160 != a0_1) = false := bne_eq_false_iff_eq.mpr c31
                  clear c31
                  obtain rfl := Option.some.inj H
                  obtain ⟨Ao32, co32, eo32⟩ := Kd.R_slice HO_5.out
                  subst eo32
                  have hcz33_0 : wr.cell? ⟨gb158, 0, none⟩ = some (.int .i64 a0_0) := (blk_cell BK158.out 0).trans rfl
                  have hcz33_1 : wr.cell? ⟨gb158, 1, none⟩ = some (.int .i64 a0_1) := (blk_cell BK158.out 1).trans rfl
                  have hcz33_2 : wr.cell? ⟨gb158, 2, none⟩ = some (.int .i64 a0_2) := (blk_cell BK158.out 2).trans rfl
                  have hcz33_3 : wr.cell? ⟨gb158, 3, none⟩ = some (.int .i64 a0_3) := (blk_cell BK158.out 3).trans rfl
                  have hcz33_4 : wr.cell? ⟨gb158, 4, none⟩ = some (.int .u32 a0_4) := (blk_cell BK158.out 4).trans rfl
                  have hfz33_0 := blk_frozen BK158.out 0
                  have hfz33_1 := blk_frozen BK158.out 1
                  have hfz33_2 := blk_frozen BK158.out 2
                  have hfz33_3 := blk_frozen BK158.out 3
                  have hfz33_4 := blk_frozen BK158.out 4
                  go_wp2
                  repeat (go_quiet (fail); try go_wp2)
                  go_ret
                  exact ⟨by first | rfl | (simp [errW_none, errW_some] <;> rfl) | (simp [*, errW_none, errW_some] <;> rfl), by repeat (first | (with_reducible first | exact HB.out | apply below_alloc | apply pw_below_drewN | apply below_drew1 | refine below_set ?_ GE158.out) | exact HB.out)⟩
                · rw [if_neg c31] at H
                  have c31b0 : (t160 == a0_1) = false := beq_eq_false_iff_ne.mpr c31
                  have c31b1 : (t160 != a0_1) = true := bne_iff_ne.mpr c31
                  obtain rfl := Option.some.inj H
                  obtain ⟨Ao34, co34, eo34⟩ := Kd.R_slice HO_5.out
                  subst eo34
                  have hcz35_0 : wr.cell? ⟨gb158, 0, none⟩ = some (.int .i64 a0_0) := (blk_cell BK158.out 0).trans rfl
                  have hcz35_1 : wr.cell? ⟨gb158, 1, none⟩ = some (.int .i64 a0_1) := (blk_cell BK158.out 1).trans rfl
                  have hcz35_2 : wr.cell? ⟨gb158, 2, none⟩ = some (.int .i64 a0_2) := (blk_cell BK158.out 2).trans rfl
                  have hcz35_3 : wr.cell? ⟨gb158, 3, none⟩ = some (.int .i64 a0_3) := (blk_cell BK158.out 3).trans rfl
                  have hcz35_4 : wr.cell? ⟨gb158, 4, none⟩ = some (.int .u32 a0_4) := (blk_cell BK158.out 4).trans rfl
                  have hfz35_0 := blk_frozen BK158.out 0
                  have hfz35_1 := blk_frozen BK158.out 1
                  have hfz35_2 := blk_frozen BK158.out 2
                  have hfz35_3 := blk_frozen BK158.out 3
                  have hfz35_4 := blk_frozen BK158.out 4
                  go_wp2
                  repeat (go_quiet (fail); try go_wp2)
                  go_ret
                  exact ⟨by first | rfl | (simp [errW_none, errW_some] <;> rfl) | (simp [*, errW_none, errW_some] <;> rfl), by repeat (first | (with_reducible first | exact HB.out | apply below_alloc | apply pw_below_drewN | apply below_drew1 | refine below_set ?_ GE158.out) | exact HB.out)⟩
              · replace c30 := Bool.eq_false_iff.mpr c30
                subst c30
                have H1 : (if t160 = 0 then (some (decide ((t162.length : Int) ≤ 2))) else (some false)) = some r := by rw [if_neg (show ¬ (false = true) by decide)] at H; exact H
                clear H
                have H := H1
                clear H1
                by_cases c36 : t160 = 0
                · rw [if_pos c36] at H
                  have c36b0 : (t160 == 0) = true := beq_iff_eq.mpr c36
                  have c36b1 : (t160 != 0) = false := bne_eq_false_iff_eq.mpr c36
                  clear c36
                  obtain rfl := Option.some.inj H
                  obtain ⟨Ao37, co37, eo37⟩ := Kd.R_slice HO_5.out
                  subst eo37
                  have hcz38_0 : wr.cell? ⟨gb158, 0, none⟩ = some (.int .i64 a0_0) := (blk_cell BK158.out 0).trans rfl
                  have hcz38_1 : wr.cell? ⟨gb158, 1, none⟩ = some (.int .i64 a0_1) := (blk_cell BK158.out 1).trans rfl
                  have hcz38_2 : wr.cell? ⟨gb158, 2, none⟩ = some (.int .i64 a0_2) := (blk_cell BK158.out 2).trans rfl
                  have hcz38_3 : wr.cell? ⟨gb158, 3, none⟩ = some (.int .i64 a0_3) := (blk_cell BK158.out 3).trans rfl
                  have hcz38_4 : wr.cell? ⟨gb158, 4, none⟩ = some (.int .u32 a0_4) := (blk_cell BK158.out 4).trans rfl
                  have hfz38_0 := blk_frozen BK158.out 0
                  have hfz38_1 := blk_frozen BK158.out 1
                  have hfz38_2 := blk_frozen BK158.out 2
                  have hfz38_3 := blk_frozen BK158.out 3
                  have hfz38_4 := blk_frozen BK158.out 4
                  go_wp2
                  repeat (go_quiet (fail); try go_wp2)
                  go_ret
                  exact ⟨by first | rfl | (simp [errW_none, errW_some] <;> rfl) | (simp [*, errW_none, errW_some] <;> rfl), by repeat (first | (with_reducible first | exact HB.out | apply below_alloc | apply pw_below_drewN | apply below_drew1 | refine below_set ?_ GE158.out) | exact HB.out)⟩
                · rw [if_neg c36] at H
                  have c36b0 : (t160 == 0) = false := beq_eq_false_iff_ne.mpr c36
                  have c36b1 : (t160 != 0) = true := bne_iff_ne.mpr c36
                  obtain rfl := Option.some.inj H
                  obtain ⟨Ao39, co39, eo39⟩ := Kd.R_slice HO_5.out
                  subst eo39
                  have hcz40_0 : wr.cell? ⟨gb158, 0, none⟩ = some (.int .i64 a0_0) := (blk_cell BK158.out 0).trans rfl
                  have hcz40_1 : wr.cell? ⟨gb158, 1, none⟩ = some (.int .i64 a0_1) := (blk_cell BK158.out 1).trans rfl
                  have hcz40_2 : wr.cell? ⟨gb158, 2, none⟩ = some (.int .i64 a0_2) := (blk_cell BK158.out 2).trans rfl
                  have hcz40_3 : wr.cell? ⟨gb158, 3, none⟩ = some (.int .i64 a0_3) := (blk_cell BK158.out 3).trans rfl
                  have hcz40_4 : wr.cell? ⟨gb158, 4, none⟩ = some (.int .u32 a0_4) := (blk_cell BK158.out 4).trans rfl
                  have hfz40_0 := blk_frozen BK158.out 0
                  have hfz40_1 := blk_frozen BK158.out 1
                  have hfz40_2 := blk_frozen BK158.out 2
                  have hfz40_3 := blk_frozen BK158.out 3
                  have hfz40_4 := blk_frozen BK158.out 4
                  go_wp2
                  repeat (go_quiet (fail); try go_wp2)
                  go_ret
                  exact ⟨by first | rfl | (simp [errW_none, errW_some] <;> rfl) | (simp [*, errW_none, errW_some] <;> rfl), by repeat (first | (with_reducible first | exact HB.out | apply below_alloc | apply pw_below_drewN | apply below_drew1 | refine below_set ?_ GE158.out) | exact HB.out)⟩
            · rw [if_neg c29] at H
              have c29b0 : (t161 == true) = false := by simpa using c29
              (try (have c29b1 : decide (t161 = true) = false := by simpa using c29))
              (try (have c29b2 : (t161 == true) = false := by simpa using c29))
              (try (have c29b3 : ¬ (t161 = true) := by simpa using c29))
              clear c29
              obtain rfl := Option.some.inj H
              obtain ⟨Ao41, co41, eo41⟩ := Kd.R_slice HO_5.out
              subst eo41
              have hcz42_0 : wr.cell? ⟨gb158, 0, none⟩ = some (.int .i64 a0_0) := (blk_cell BK158.out 0).trans rfl
              have hcz42_1 : wr.cell? ⟨gb158, 1, none⟩ = some (.int .i64 a0_1) := (blk_cell BK158.out 1).trans rfl
              have hcz42_2 : wr.cell? ⟨gb158, 2, none⟩ = some (.int .i64 a0_2) := (blk_cell BK158.out 2).trans rfl
              have hcz42_3 : wr.cell? ⟨gb158, 3, none⟩ = some (.int .i64 a0_3) := (blk_cell BK158.out 3).trans rfl
              have hcz42_4 : wr.cell? ⟨gb158, 4, none⟩ = some (.int .u32 a0_4) := (blk_cell BK158.out 4).trans rfl
              have hfz42_0 := blk_frozen BK158.out 0
              have hfz42_1 := blk_frozen BK158.out 1
              have hfz42_2 := blk_frozen BK158.out 2
              have hfz42_3 := blk_frozen BK158.out 3
              have hfz42_4 := blk_frozen BK158.out 4
              go_wp2
              repeat (go_quiet (fail); try go_wp2)
              go_ret
              exact ⟨by first | rfl | (simp [errW_none, errW_some] <;> rfl) | (simp [*, errW_none, errW_some] <;> rfl), by repeat (first | (with_reducible first | exact HB.out | apply below_alloc | apply pw_below_drewN | apply below_drew1 | refine below_set ?_ GE158.out) | exact HB.out)⟩
          · rw [if_neg c28] at H
            have c28b0 : (a0_0 == 1) = false := beq_eq_false_iff_ne.mpr c28
            have c28b1 : (a0_0 != 1) = true := bne_iff_ne.mpr c28
            by_cases c43 : a0_0 = 2
            · rw [if_pos c43] at H
              have c43b0 : (a0_0 == 2) = true := beq_iff_eq.mpr c43
              have c43b1 : (a0_0 != 2) = false := bne_eq_false_iff_eq.mpr c43
              clear c43
              by_cases c44 : (t161 == true) = true
              · rw [if_pos c44] at H
                have c44b0 : (t161 == true) = true := c44
                (try (have c44b1 : decide (t161 = true) = true := by simpa using c44))
                (try (have c44b2 : (t161 == true) = true := by simpa using c44))
                clear c44
                by_cases c45 : t161 = true
                · subst c45
                  have H1 : (if t160 = a0_1 then (some (decide ((t162.length : Int) ≤ 2))) else (some false)) = some r := by rw [if_pos rfl] at H; exact H
                  clear H
                  have H := H1
                  clear H1
                  by_cases c46 : t160 = a0_1
                  · rw [if_pos c46] at H
                    have c46b0 : (t160 == a0_1) = true := beq_iff_eq.mpr c46
                    have c46b1 : (t160 != a0_1) = false := bne_eq_false_iff_eq.mpr c46
                    clear c46
                    obtain rfl := Option.some.inj H
                    obtain ⟨Ao47, co47, eo47⟩ := Kd.R_slice HO_5.out
                    subst eo47
                    have hcz48_0 : wr.cell? ⟨gb158, 0, none⟩ = some (.int .i64 a0_0) := (blk_cell BK158.out 0).trans rfl
                    have hcz48_1 : wr.cell? ⟨gb158, 1, none⟩ = some (.int .i64 a0_1) := (blk_cell BK158.out 1).trans rfl
                    have hcz48_2 : wr.cell? ⟨gb158, 2, none⟩ = some (.int .i64 a0_2) := (blk_cell BK158.out 2).trans rfl
                    have hcz48_3 : wr.cell? ⟨gb158, 3, none⟩ = some (.int .i64 a0_3) := (blk_cell BK158.out 3).trans rfl
                    have hcz48_4 : wr.cell? ⟨gb158, 4, none⟩ = some (.int .u32 a0_4) := (blk_cell BK158.out 4).trans rfl
                    have hfz48_0 := blk_frozen BK158.out 0
                    have hfz48_1 := blk_frozen BK158.out 1
                    have hfz48_2 := blk_frozen BK158.out 2
                    have hfz48_3 := blk_frozen BK158.out 3
                    have hfz48_4 := blk_frozen BK158.out 4
                    go_wp2
                    repeat (go_quiet (fail); try go_wp2)
                    go_ret
                    exact ⟨by first | rfl | (simp [errW_none, errW_some] <;> rfl) | (simp [*, errW_none, errW_some] <;> rfl), by repeat (first | (with_reducible first | exact HB.out | apply below_alloc | apply pw_below_drewN | apply below_drew1 | refine below_set ?_ GE158.out) | exact HB.out)⟩
                  · rw [if_neg c46] at H
                    have c46b0 : (t160 == a0_1) = false := beq_eq_false_iff_ne.mpr c46
                    have c46b1 : (t160 != a0_1) = true := bne_iff_ne.mpr c46
                    obtain rfl := Option.some.inj H
                    obtain ⟨Ao49, co49, eo49⟩ := Kd.R_slice HO_5.out
                    subst eo49
                    have hcz50_0 : wr.cell? ⟨gb158, 0, none⟩ = some (.int .i64 a0_0) := (blk_cell BK158.out 0).trans rfl
                    have hcz50_1 : wr.cell? ⟨gb158, 1, none⟩ = some (.int .i64 a0_1) := (blk_cell BK158.out 1).trans rfl
                    have hcz50_2 : wr.cell? ⟨gb158, 2, none⟩ = some (.int .i64 a0_2) := (blk_cell BK158.out 2).trans rfl
                    have hcz50_3 : wr.cell? ⟨gb158, 3, none⟩ = some (.int .i64 a0_3) := (blk_cell BK158.out 3).trans rfl
                    have hcz50_4 : wr.cell? ⟨gb158, 4, none⟩ = some (.int .u32 a0_4) := (blk_cell BK158.out 4).trans rfl
                    have hfz50_0 := blk_frozen BK158.out 0
                    have hfz50_1 := blk_frozen BK158.out 1
                    have hfz50_2 := blk_frozen BK158.out 2
                    have hfz50_3 := blk_frozen BK158.out 3
                    have hfz50_4 := blk_frozen BK158.out 4
                    go_wp2
                    repeat (go_quiet (fail); try go_wp2)
                    go_ret
                    exact ⟨by first | rfl | (simp [errW_none, errW_some] <;> rfl) | (simp [*, errW_none, errW_some] <;> rfl), by repeat (first | (with_reducible first | exact HB.out | apply below_alloc | apply pw_below_drewN | apply below_drew1 | refine below_set ?_ GE158.out) | exact HB.out)⟩
                · replace c45 := Bool.eq_false_iff.mpr c45
                  subst c45
                  have H1 : (if t160 = 0 then (some (decide ((t162.length : Int) ≤ 2))) else (some false)) = some r := by rw [if_neg (show ¬ (false = true) by decide)] at H; exact H
                  clear H
                  have H := H1
                  clear H1
                  by_cases c51 : t160 = 0
                  · rw [if_pos c51] at H
                    have c51b0 : (t160 == 0) = true := beq_iff_eq.mpr c51
                    have c51b1 : (t160 != 0) = false := bne_eq_false_iff_eq.mpr c51
                    clear c51
                    obtain rfl := Option.some.inj H
                    obtain ⟨Ao52, co52, eo52⟩ := Kd.R_slice HO_5.out
                    subst eo52
                    have hcz53_0 : wr.cell? ⟨gb158, 0, none⟩ = some (.int .i64 a0_0) := (blk_cell BK158.out 0).trans rfl
                    have hcz53_1 : wr.cell? ⟨gb158, 1, none⟩ = some (.int .i64 a0_1) := (blk_cell BK158.out 1).trans rfl
                    have hcz53_2 : wr.cell? ⟨gb158, 2, none⟩ = some (.int .i64 a0_2) := (blk_cell BK158.out 2).trans rfl
                    have hcz53_3 : wr.cell? ⟨gb158, 3, none⟩ = some (.int .i64 a0_3) := (blk_cell BK158.out 3).trans rfl
                    have hcz53_4 : wr.cell? ⟨gb158, 4, none⟩ = some (.int .u32 a0_4) := (blk_cell BK158.out 4).trans rfl
                    have hfz53_0 := blk_frozen BK158.out 0
                    have hfz53_1 := blk_frozen BK158.out 1
                    have hfz53_2 := blk_frozen BK158.out 2
                    have hfz53_3 := blk_frozen BK158.out 3
                    have hfz53_4 := blk_frozen BK158.out 4
                    go_wp2
                    repeat (go_quiet (fail); try go_wp2)
                    go_ret
                    exact ⟨by first | rfl | (simp [errW_none, errW_some] <;> rfl) | (simp [*, errW_none, errW_some] <;> rfl), by repeat (first | (with_reducible first | exact HB.out | apply below_alloc | apply pw_below_drewN | apply below_drew1 | refine below_set ?_ GE158.out) | exact HB.out)⟩
                  · rw [if_neg c51] at H
                    have c51b0 : (t160 == 0) = false := beq_eq_false_iff_ne.mpr c51
                    have c51b1 : (t160 != 0) = true := bne_iff_ne.mpr c51
                    obtain rfl := Option.some.inj H
                    obtain ⟨Ao54, co54, eo54⟩ := Kd.R_slice HO_5.out
                    subst eo54
                    have hcz55_0 : wr.cell? ⟨gb158, 0, none⟩ = some (.int .i64 a0_0) := (blk_cell BK158.out 0).trans rfl
                    have hcz55_1 : wr.cell? ⟨gb158, 1, none⟩ = some (.int .i64 a0_1) := (blk_cell BK158.out 1).trans rfl
                    have hcz55_2 : wr.cell? ⟨gb158, 2, none⟩ = some (.int .i64 a0_2) := (blk_cell BK158.out 2).trans rfl
                    have hcz55_3 : wr.cell? ⟨gb158, 3, none⟩ = some (.int .i64 a0_3) := (blk_cell BK158.out 3).trans rfl
                    have hcz55_4 : wr.cell? ⟨gb158, 4, none⟩ = some (.int .u32 a0_4) := (blk_cell BK158.out 4).trans rfl
                    have hfz55_0 := blk_frozen BK158.out 0
                    have hfz55_1 := blk_frozen BK158.out 1
                    have hfz55_2 := blk_frozen BK158.out 2
                    have hfz55_3 := blk_frozen BK158.out 3
                    have hfz55_4 := blk_frozen BK158.out 4
                    go_wp2
                    repeat (go_quiet (fail); try go_wp2)
                    go_ret
                    exact ⟨by first | rfl | (simp [errW_none, errW_some] <;> rfl) | (simp [*, errW_none, errW_some] <;> rfl), by repeat (first | (with_reducible first | exact HB.out | apply below_alloc | apply pw_below_drewN | apply below_drew1 | refine below_set ?_ GE158.out) | exact HB.out)⟩
              · rw [if_neg c44] at H
                have c44b0 : (t161 == true) = false := by simpa using c44
                (try (have c44b1 : decide (t161 = true) = false := by simpa using c44))
                (try (have c44b2 : (t161 == true) = false := by simpa using c44))
                (try (have c44b3 : ¬ (t161 = true) := by simpa using c44))
                clear c44
                obtain rfl := Option.some.inj H
                obtain ⟨Ao56, co56, eo56⟩ := Kd.R_slice HO_5.out
                subst eo56
                have hcz57_0 : wr.cell? ⟨gb158, 0, none⟩ = some (.int .i64 a0_0) := (blk_cell BK158.out 0).trans rfl
                have hcz57_1 : wr.cell? ⟨gb158, 1, none⟩ = some (.int .i64 a0_1) := (blk_cell BK158.out 1).trans rfl
                have hcz57_2 : wr.cell? ⟨gb158, 2, none⟩ = some (.int .i64 a0_2) := (blk_cell BK158.out 2).trans rfl
                have hcz57_3 : wr.cell? ⟨gb158, 3, none⟩ = some (.int .i64 a0_3) := (blk_cell BK158.out 3).trans rfl
                have hcz57_4 : wr.cell? ⟨gb158, 4, none⟩ = some (.int .u32 a0_4) := (blk_cell BK158.out 4).trans rfl
                have hfz57_0 := blk_frozen BK158.out 0
                have hfz57_1 := blk_frozen BK158.out 1
                have hfz57_2 := blk_frozen BK158.out 2
                have hfz57_3 := blk_frozen BK158.out 3
                have hfz57_4 := blk_frozen BK158.out 4
                go_wp2
                repeat (go_quiet (fail); try go_wp2)
                go_ret
                exact ⟨by first | rfl | (simp [errW_none, errW_some] <;> rfl) | (simp [*, errW_none, errW_some] <;> rfl), by repeat (first | (with_reducible first | exact HB.out | apply below_alloc | apply pw_below_drewN | apply below_drew1 | refine below_set ?_ GE158.out) | exact HB.out)⟩
            · rw [if_neg c43] at H
              have c43b0 : (a0_0 == 2) = false := beq_eq_false_iff_ne.mpr c43
              have c43b1 : (a0_0 != 2) = true := bne_iff_ne.mpr c43
              by_cases c58 : a0_0 ≥ 4
              · rw [if_pos c58] at H
                have c58b0 : decide (4 ≤ a0_0) = true := decide_eq_true c58
                clear c58
                by_cases c59 : (t161 == (decide (a0_0 ≤ 6))) = true
                · rw [if_pos c59] at H
                  have c59b0 : (t161 == (decide (a0_0 ≤ 6))) = true := c59
                  (try (have c59b1 : decide (t161 = (decide (a0_0 ≤ 6))) = true := by simpa using c59))
                  (try (have c59b2 : (t161 == (decide (a0_0 ≤ 6))) = true := by simpa using c59))
                  clear c59
                  by_cases c60 : t161 = true
                  · subst c60
                    have H1 : (if t160 = a0_1 then (some (decide ((t162.length : Int) ≤ 2))) else (some false)) = some r := by rw [if_pos rfl] at H; exact H
                    clear H
                    have H := H1
                    clear H1
                    by_cases c61 : t160 = a0_1
                    · rw [if_pos c61] at H
                      have c61b0 : (t160 == a0_1) = true := beq_iff_eq.mpr c61
                      have c61b1 : (t160 != a0_1) = false := bne_eq_false_iff_eq.mpr c61
                      clear c61
                      obtain rfl := Option.some.inj H
                      obtain ⟨Ao62, co62, eo62⟩ := Kd.R_slice HO_5.out
                      subst eo62
                      have hcz63_0 : wr.cell? ⟨gb158, 0, none⟩ = some (.int .i64 a0_0) := (blk_cell BK158.out 0).trans rfl
                      have hcz63_1 : wr.cell? ⟨gb158, 1, none⟩ = some (.int .i64 a0_1) := (blk_cell BK158.out 1).trans rfl
                      have hcz63_2 : wr.cell? ⟨gb158, 2, none⟩ = some (.int .i64 a0_2) := (blk_cell BK158.out 2).trans rfl
                      have hcz63_3 : wr.cell? ⟨gb158, 3, none⟩ = some (.int .i64 a0_3) := (blk_cell BK158.out 3).trans rfl
                      have hcz63_4 : wr.cell? ⟨gb158, 4, none⟩ = some (.int .u32 a0_4) := (blk_cell BK158.out 4).trans rfl
                      have hfz63_0 := blk_frozen BK158.out 0
                      have hfz63_1 := blk_frozen BK158.out 1
                      have hfz63_2 := blk_frozen BK158.out 2
                      have hfz63_3 := blk_frozen BK158.out 3
                      have hfz63_4 := blk_frozen BK158.out 4
                      go_wp2
                      repeat (go_quiet (fail); try go_wp2)
                      go_ret
                      exact ⟨by first | rfl | (simp [errW_none, errW_some] <;> rfl) | (simp [*, errW_none, errW_some] <;> rfl), by repeat (first | (with_reducible first | exact HB.out | apply below_alloc | apply pw_below_drewN | apply below_drew1 | refine below_set ?_ GE158.out) | exact HB.out)⟩
                    · rw [if_neg c61] at H
                      have c61b0 : (t160 == a0_1) = false := beq_eq_false_iff_ne.mpr c61
                      have c61b1 : (t160 != a0_1) = true := bne_iff_ne.mpr c61
                      obtain rfl := Option.some.inj H
                      obtain ⟨Ao64, co64, eo64⟩ := Kd.R_slice HO_5.out
                      subst eo64
                      have hcz65_0 : wr.cell? ⟨gb158, 0, none⟩ = some (.int .i64 a0_0) := (blk_cell BK158.out 0).trans rfl
                      have hcz65_1 : wr.cell? ⟨gb158, 1, none⟩ = some (.int .i64 a0_1) := (blk_cell BK158.out 1).trans rfl
                      have hcz65_2 : wr.cell? ⟨gb158, 2, none⟩ = some (.int .i64 a0_2) := (blk_cell BK158.out 2).trans rfl
                      have hcz65_3 : wr.cell? ⟨gb158, 3, none⟩ = some (.int .i64 a0_3) := (blk_cell BK158.out 3).trans rfl
                      have hcz65_4 : wr.cell? ⟨gb158, 4, none⟩ = some (.int .u32 a0_4) := (blk_cell BK158.out 4).trans rfl
                      have hfz65_0 := blk_frozen BK158.out 0
                      have hfz65_1 := blk_frozen BK158.out 1
                      have hfz65_2 := blk_frozen BK158.out 2
                      have hfz65_3 := blk_frozen BK158.out 3
                      have hfz65_4 := blk_frozen BK158.out 4
                      go_wp2
                      repeat (go_quiet (fail); try go_wp2)
                      go_ret
                      exact ⟨by first | rfl | (simp [errW_none, errW_some] <;> rfl) | (simp [*, errW_none, errW_some] <;> rfl), by repeat (first | (with_reducible first | exact HB.out | apply below_alloc | apply pw_below_drewN | apply below_drew1 | refine below_set ?_ GE158.out) | exact HB.out)⟩
                  · replace c60 := Bool.eq_false_iff.mpr c60
                    subst c60
                    have H1 : (if t160 = 0 then (some (decide ((t162.length : Int) ≤ 2))) else (some false)) = some r := by rw [if_neg (show ¬ (false = true) by decide)] at H; exact H
                    clear H
                    have H := H1
                    clear H1
                    by_cases c66 : t160 = 0
                    · rw [if_pos c66] at H
                      have c66b0 : (t160 == 0) = true := beq_iff_eq.mpr c66
                      have c66b1 : (t160 != 0) = false := bne_eq_false_iff_eq.mpr c66
                      clear c66
                      obtain rfl := Option.some.inj H
                      obtain ⟨Ao67, co67, eo67⟩ := Kd.R_slice HO_5.out
                      subst eo67
                      have hcz68_0 : wr.cell? ⟨gb158, 0, none⟩ = some (.int .i64 a0_0) := (blk_cell BK158.out 0).trans rfl
                      have hcz68_1 : wr.cell? ⟨gb158, 1, none⟩ = some (.int .i64 a0_1) := (blk_cell BK158.out 1).trans rfl
                      have hcz68_2 : wr.cell? ⟨gb158, 2, none⟩ = some (.int .i64 a0_2) := (blk_cell BK158.out 2).trans rfl
                      have hcz68_3 : wr.cell? ⟨gb158, 3, none⟩ = some (.int .i64 a0_3) := (blk_cell BK158.out 3).trans rfl
                      have hcz68_4 : wr.cell? ⟨gb158, 4, none⟩ = some (.int .u32 a0_4) := (blk_cell BK158.out 4).trans rfl
                      have hfz68_0 := blk_frozen BK158.out 0
                      have hfz68_1 := blk_frozen BK158.out 1
                      have hfz68_2 := blk_frozen BK158.out 2
                      have hfz68_3 := blk_frozen BK158.out 3
                      have hfz68_4 := blk_frozen BK158.out 4
                      go_wp2
                      repeat (go_quiet (fail); try go_wp2)
                      go_ret
                      exact ⟨by first | rfl | (simp [errW_none, errW_some] <;> rfl) | (simp [*, errW_none, errW_some] <;> rfl), by repeat (first | (with_reducible first | exact HB.out | apply below_alloc | apply pw_below_drewN | apply below_drew1 | refine below_set ?_ GE158.out) | exact HB.out)⟩
                    · rw [if_neg c66] at H
                      have c66b0 : (t160 == 0) = false := beq_eq_false_iff_ne.mpr c66
                      have c66b1 : (t160 != 0) = true := bne_iff_ne.mpr c66
                      obtain rfl := Option.some.inj H
                      obtain ⟨Ao69, co69, eo69⟩ := Kd.R_slice HO_5.out
                      subst eo69
                      have hcz70_0 : wr.cell? ⟨gb158, 0, none⟩ = some (.int .i64 a0_0) := (blk_cell BK158.out 0).trans rfl
                      have hcz70_1 : wr.cell? ⟨gb158, 1, none⟩ = some (.int .i64 a0_1) := (blk_cell BK158.out 1).trans rfl
                      have hcz70_2 : wr.cell? ⟨gb158, 2, none⟩ = some (.int .i64 a0_2) := (blk_cell BK158.out 2).trans rfl
                      have hcz70_3 : wr.cell? ⟨gb158, 3, none⟩ = some (.int .i64 a0_3) := (blk_cell BK158.out 3).trans rfl
                      have hcz70_4 : wr.cell? ⟨gb158, 4, none⟩ = some (.int .u32 a0_4) := (blk_cell BK158.out 4).trans rfl
                      have hfz70_0 := blk_frozen BK158.out 0
                      have hfz70_1 := blk_frozen BK158.out 1
                      have hfz70_2 := blk_frozen BK158.out 2
                      have hfz70_3 := blk_frozen BK158.out 3
                      have hfz70_4 := blk_frozen BK158.out 4
                      go_wp2
                      repeat (go_quiet (fail); try go_wp2)
                      go_ret
                      exact ⟨by first | rfl | (simp [errW_none, errW_some] <;> rfl) | (simp [*, errW_none, errW_some] <;> rfl), by repeat (first | (with_reducible first | exact HB.out | apply below_alloc | apply pw_below_drewN | apply below_drew1 | refine below_set ?_ GE158.out) | exact HB.out)⟩
                · rw [if_neg c59] at H
                  have c59b0 : (t161 == (decide (a0_0 ≤ 6))) = false := by simpa using c59
                  (try (have c59b1 : decide (t161 = (decide (a0_0 ≤ 6))) = false := by simpa using c59))
                  (try (have c59b2 : (t161 == (decide (a0_0 ≤ 6))) = false := by simpa using c59))
                  (try (have c59b3 : ¬ (t161 = (decide (a0_0 ≤ 6))) := by simpa using c59))
                  clear c59
                  obtain rfl := Option.some.inj H
                  obtain ⟨Ao71, co71, eo71⟩ := Kd.R_slice HO_5.out
                  subst eo71
                  have hcz72_0 : wr.cell? ⟨gb158, 0, none⟩ = some (.int .i64 a0_0) := (blk_cell BK158.out 0).trans rfl
                  have hcz72_1 : wr.cell? ⟨gb158, 1, none⟩ = some (.int .i64 a0_1) := (blk_cell BK158.out 1).trans rfl
                  have hcz72_2 : wr.cell? ⟨gb158, 2, none⟩ = some (.int .i64 a0_2) := (blk_cell BK158.out 2).trans rfl
                  have hcz72_3 : wr.cell? ⟨gb158, 3, none⟩ = some (.int .i64 a0_3) := (blk_cell BK158.out 3).trans rfl
                  have hcz72_4 : wr.cell? ⟨gb158, 4, none⟩ = some (.int .u32 a0_4) := (blk_cell BK158.out 4).trans rfl
                  have hfz72_0 := blk_frozen BK158.out 0
                  have hfz72_1 := blk_frozen BK158.out 1
                  have hfz72_2 := blk_frozen BK158.out 2
                  have hfz72_3 := blk_frozen BK158.out 3
                  have hfz72_4 := blk_frozen BK158.out 4
                  go_wp2
                  repeat (go_quiet (fail); try go_wp2)
                  go_ret
                  exact ⟨by first | rfl | (simp [errW_none, errW_some] <;> rfl) | (simp [*, errW_none, errW_some] <;> rfl), by repeat (first | (with_reducible first | exact HB.out | apply below_alloc | apply pw_below_drewN | apply below_drew1 | refine below_set ?_ GE158.out) | exact HB.out)⟩
              · rw [if_neg c58] at H
                have c58b0 : decide (4 ≤ a0_0) = false := decide_eq_false c58
                clear c58
                by_cases c73 : (t161 == false) = true
                · rw [if_pos c73] at H
                  have c73b0 : (t161 == false) = true := c73
                  (try (have c73b1 : decide (t161 = false) = true := by simpa using c73))
                  (try (have c73b2 : (t161 == false) = true := by simpa using c73))
                  clear c73
                  by_cases c74 : t161 = true
                  · subst c74
                    have H1 : (if t160 = a0_1 then (some (decide ((t162.length : Int) ≤ 2))) else (some false)) = some r := by rw [if_pos rfl] at H; exact H
                    clear H
                    have H := H1
                    clear H1
                    by_cases c75 : t160 = a0_1
                    · rw [if_pos c75] at H
                      have c75b0 : (t160 == a0_1) = true := beq_iff_eq.mpr c75
                      have c75b1 : (t160 != a0_1) = false := bne_eq_false_iff_eq.mpr c75
                      clear c75
                      obtain rfl := Option.some.inj H
                      obtain ⟨Ao76, co76, eo76⟩ := Kd.R_slice HO_5.out
                      subst eo76
                      have hcz77_0 : wr.cell? ⟨gb158, 0, none⟩ = some (.int .i64 a0_0) := (blk_cell BK158.out 0).trans rfl
                      have hcz77_1 : wr.cell? ⟨gb158, 1, none⟩ = some (.int .i64 a0_1) := (blk_cell BK158.out 1).trans rfl
                      have hcz77_2 : wr.cell? ⟨gb158, 2, none⟩ = some (.int .i64 a0_2) := (blk_cell BK158.out 2).trans rfl
                      have hcz77_3 : wr.cell? ⟨gb158, 3, none⟩ = some (.int .i64 a0_3) := (blk_cell BK158.out 3).trans rfl
                      have hcz77_4 : wr.cell? ⟨gb158, 4, none⟩ = some (.int .u32 a0_4) := (blk_cell BK158.out 4).trans rfl
                      have hfz77_0 := blk_frozen BK158.out 0
                      have hfz77_1 := blk_frozen BK158.out 1
                      have hfz77_2 := blk_frozen BK158.out 2
                      have hfz77_3 := blk_frozen BK158.out 3
                      have hfz77_4 := blk_frozen BK158.out 4
                      go_wp2
                      repeat (go_quiet (fail); try go_wp2)
                      go_ret
                      exact ⟨by first | rfl | (simp [errW_none, errW_some] <;> rfl) | (simp [*, errW_none, errW_some] <;> rfl), by repeat (first | (with_reducible first | exact HB.out | apply below_alloc | apply pw_below_drewN | apply below_drew1 | refine below_set ?_ GE158.out) | exact HB.out)⟩
                    · rw [if_neg c75] at H
                      have c75b0 : (t160 == a0_1) = false := beq_eq_false_iff_ne.mpr c75
                      have c75b1 : (t160 != a0_1) = true := bne_iff_ne.mpr c75
                      obtain rfl := Option.some.inj H
                      obtain ⟨Ao78, co78, eo78⟩ := Kd.R_slice HO_5.out
                      subst eo78
                      have hcz79_0 : wr.cell? ⟨gb158, 0, none⟩ = some (.int .i64 a0_0) := (blk_cell BK158.out 0).trans rfl
                      have hcz79_1 : wr.cell? ⟨gb158, 1, none⟩ = some (.int .i64 a0_1) := (blk_cell BK158.out 1).trans rfl
                      have hcz79_2 : wr.cell? ⟨gb158, 2, none⟩ = some (.int .i64 a0_2) := (blk_cell BK158.out 2).trans rfl
                      have hcz79_3 : wr.cell? ⟨gb158, 3, none⟩ = some (.int .i64 a0_3) := (blk_cell BK158.out 3).trans rfl
                      have hcz79_4 : wr.cell? ⟨gb158, 4, none⟩ = some (.int .u32 a0_4) := (blk_cell BK158.out 4).trans rfl
                      have hfz79_0 := blk_frozen BK158.out 0
                      have hfz79_1 := blk_frozen BK158.out 1
                      have hfz79_2 := blk_frozen BK158.out 2
                      have hfz79_3 := blk_frozen BK158.out 3
                      have hfz79_4 := blk_frozen BK158.out 4
                      go_wp2
                      repeat (go_quiet (fail); try go_wp2)
                      go_ret
                      exact ⟨by first | rfl | (simp [errW_none, errW_some] <;> rfl) | (simp [*, errW_none, errW_some] <;> rfl), by repeat (first | (with_reducible first | exact HB.out | apply below_alloc | apply pw_below_drewN | apply below_drew1 | refine below_set ?_ GE158.out) | exact HB.out)⟩
                  · replace c74 := Bool.eq_false_iff.mpr c74
                    subst c74
                    have H1 : (if t160 = 0 then (some (decide ((t162.length : Int) ≤ 2))) else (some false)) = some r := by rw [if_neg (show ¬ (false = true) by decide)] at H; exact H
                    clear H
                    have H := H1
                    clear H1
                    by_cases c80 : t160 = 0
                    · rw [if_pos c80] at H
                      have c80b0 : (t160 == 0) = true := beq_iff_eq.mpr c80
                      have c80b1 : (t160 != 0) = false := bne_eq_false_iff_eq.mpr c80
                      clear c80
                      obtain rfl := Option.some.inj H
                      obtain ⟨Ao81, co81, eo81⟩ := Kd.R_slice HO_5.out
                      subst eo81
                      have hcz82_0 : wr.cell? ⟨gb158, 0, none⟩ = some (.int .i64 a0_0) := (blk_cell BK158.out 0).trans rfl
                      have hcz82_1 : wr.cell? ⟨gb158, 1, none⟩ = some (.int .i64 a0_1) := (blk_cell BK158.out 1).trans rfl
                      have hcz82_2 : wr.cell? ⟨gb158, 2, none⟩ = some (.int .i64 a0_2) := (blk_cell BK158.out 2).trans rfl
                      have hcz82_3 : wr.cell? ⟨gb158, 3, none⟩ = some (.int .i64 a0_3) := (blk_cell BK158.out 3).trans rfl
                      have hcz82_4 : wr.cell? ⟨gb158, 4, none⟩ = some (.int .u32 a0_4) := (blk_cell BK158.out 4).trans rfl
                      have hfz82_0 := blk_frozen BK158.out 0
                      have hfz82_1 := blk_frozen BK158.out 1
                      have hfz82_2 := blk_frozen BK158.out 2
                      have hfz82_3 := blk_frozen BK158.out 3
                      have hfz82_4 := blk_frozen BK158.out 4
                      go_wp2
                      repeat (go_quiet (fail); try go_wp2)
                      go_ret
                      exact ⟨by first | rfl | (simp [errW_none, errW_some] <;> rfl) | (simp [*, errW_none, errW_some] <;> rfl), by repeat (first | (with_reducible first | exact HB.out | apply below_alloc | apply pw_below_drewN | apply below_drew1 | refine below_set ?_ GE158.out) | exact HB.out)⟩
                    · rw [if_neg c80] at H
                      have c80b0 : (t160 == 0) = false := beq_eq_false_iff_ne.mpr c80
                      have c80b1 : (t160 != 0) = true := bne_iff_ne.mpr c80
                      obtain rfl := Option.some.inj H
                      obtain ⟨Ao83, co83, eo83⟩ := Kd.R_slice HO_5.out
                      subst eo83
                      have hcz84_0 : wr.cell? ⟨gb158, 0, none⟩ = some (.int .i64 a0_0) := (blk_cell BK158.out 0).trans rfl
                      have hcz84_1 : wr.cell? ⟨gb158, 1, none⟩ = some (.int .i64 a0_1) := (blk_cell BK158.out 1).trans rfl
                      have hcz84_2 : wr.cell? ⟨gb158, 2, none⟩ = some (.int .i64 a0_2) := (blk_cell BK158.out 2).trans rfl
                      have hcz84_3 : wr.cell? ⟨gb158, 3, none⟩ = some (.int .i64 a0_3) := (blk_cell BK158.out 3).trans rfl
                      have hcz84_4 : wr.cell? ⟨gb158, 4, none⟩ = some (.int .u32 a0_4) := (blk_cell BK158.out 4).trans rfl
                      have hfz84_0 := blk_frozen BK158.out 0
                      have hfz84_1 := blk_frozen BK158.out 1
                      have hfz84_2 := blk_frozen BK158.out 2
                      have hfz84_3 := blk_frozen BK158.out 3
                      have hfz84_4 := blk_frozen BK158.out 4
                      go_wp2
                      repeat (go_quiet (fail); try go_wp2)
                      go_ret
                      exact ⟨by first | rfl | (simp [errW_none, errW_some] <;> rfl) | (simp [*, errW_none, errW_some] <;> rfl), by repeat (first | (with_reducible first | exact HB.out | apply below_alloc | apply pw_below_drewN | apply below_drew1 | refine below_set ?_ GE158.out) | exact HB.out)⟩
                · rw [if_neg c73] at H
                  have c73b0 : (t161 == false) = false := by simpa using c73
                  (try (have c73b1 : decide (t161 = false) = false := by simpa using c73))
                  (try (have c73b2 : (t161 == false) = false := by simpa using c73))
                  (try (have c73b3 : ¬ (t161 = false) := by simpa using c73))
                  clear c73
                  obtain rfl := Option.some.inj H
                  obtain ⟨Ao85, co85, eo85⟩ := Kd.R_slice HO_5.out
                  subst eo85
                  have hcz86_0 : wr.cell? ⟨gb158, 0, none⟩ = some (.int .i64 a0_0) := (blk_cell BK158.out 0).trans rfl
                  have hcz86_1 : wr.cell? ⟨gb158, 1, none⟩ = some (.int .i64 a0_1) := (blk_cell BK158.out 1).trans rfl
                  have hcz86_2 : wr.cell? ⟨gb158, 2, none⟩ = some (.int .i64 a0_2) := (blk_cell BK158.out 2).trans rfl
                  have hcz86_3 : wr.cell? ⟨gb158, 3, none⟩ = some (.int .i64 a0_3) := (blk_cell BK158.out 3).trans rfl
                  have hcz86_4 : wr.cell? ⟨gb158, 4, none⟩ = some (.int .u32 a0_4) := (blk_cell BK158.out 4).trans rfl
                  have hfz86_0 := blk_frozen BK158.out 0
                  have hfz86_1 := blk_frozen BK158.out 1
                  have hfz86_2 := blk_frozen BK158.out 2
                  have hfz86_3 := blk_frozen BK158.out 3
                  have hfz86_4 := blk_frozen BK158.out 4
                  go_wp2
                  repeat (go_quiet (fail); try go_wp2)
                  go_ret
                  exact ⟨by first | rfl | (simp [errW_none, errW_some] <;> rfl) | (simp [*, errW_none, errW_some] <;> rfl), by repeat (first | (with_reducible first | exact HB.out | apply below_alloc | apply pw_below_drewN | apply below_drew1 | refine below_set ?_ GE158.out) | exact HB.out)⟩
  · replace c3 := Bool.eq_false_iff.mpr c3
    subst c3
    have H1 : (some false) = some r := by rw [if_neg (show ¬ (false = true) by decide)] at H; exact H
    clear H
    have H := H1
    clear H1
    obtain rfl := Option.some.inj H
    go_enter Tryd.func7, Tryd.ntmps7
    go_wp2_with (first | ((with_reducible refine gate_dst (N := 1) rfl ?_); (try (refine gate_guard (by rfl) ?_; dsimp only)); refine box_event ?hg (N := 1) ?hd (cs := #[.int .i64 a0_0, .int .i64 a0_1, .int .i64 a0_2, .int .i64 a0_3, .int .u32 a0_4]) (t := 25) ?hr ?_; (case hd => rfl); (case hg => rfl); (case hr => first | (go_simp; done) | (go_simp; rfl)); intro gb158 hg w87 hbox hb; have n0_ := Aside0.mk (below_step (by repeat (first | (with_reducible first | exact HB.out | apply below_alloc | apply pw_below_drewN | apply below_drew1) | exact HB.out)) hb); have n1_ := Aside0.mk (hbox); have n2_ := Aside0.mk ((by rw [hg]; exact (below_size (by repeat (first | (with_reducible first | exact HB.out | apply below_alloc | apply pw_below_drewN | apply below_drew1) | exact HB.out))) : w.heap.size ≤ gb158)); have n3_ := Aside0.mk ((by rw [hg]; exact (below_size (by repeat (first | (with_reducible first | exact HB.out | apply below_alloc | apply pw_below_drewN | apply below_drew1) | exact HB.out))) : w.heap.size ≤ gb158)); clear HB; have HB := n0_; have BK158 := n1_; have GW158 := n2_; have GE158 := n3_; clear n0_ n1_ n2_ n3_; clear hb hbox hg) | (go_at_call 8; (with_reducible refine (tincturelaw19_awake.calls  false _ A2.out).mono ?_); rintro e w88 ⟨rfl, hb⟩; have n0_ := Aside0.mk (blk_below (g := gb158) (o := .cells #[.int .i64 a0_0, .int .i64 a0_1, .int .i64 a0_2, .int .i64 a0_3, .int .u32 a0_4] 25 (0, 0)) (by (with_reducible repeat (first | refine blk_drewN ?_ _ | refine blk_drew ?_ | refine blk_alloc ?_ _)); exact BK158.out) hb); have n1_ := Aside0.mk (below_step (by repeat (first | (with_reducible first | exact HB.out | apply below_alloc | apply pw_below_drewN | apply below_drew1 | refine below_set ?_ GE158.out) | exact HB.out)) hb); clear BK158; clear HB; have BK158 := n0_; have HB := n1_; clear n0_ n1_; (try clear hb); (try clear hb2); (try clear hk); (try clear hi)))
    repeat (go_quiet (first | ((with_reducible refine gate_dst (N := 1) rfl ?_); (try (refine gate_guard (by rfl) ?_; dsimp only)); refine box_event ?hg (N := 1) ?hd (cs := #[.int .i64 a0_0, .int .i64 a0_1, .int .i64 a0_2, .int .i64 a0_3, .int .u32 a0_4]) (t := 25) ?hr ?_; (case hd => rfl); (case hg => rfl); (case hr => first | (go_simp; done) | (go_simp; rfl)); intro gb158 hg w87 hbox hb; have n0_ := Aside0.mk (below_step (by repeat (first | (with_reducible first | exact HB.out | apply below_alloc | apply pw_below_drewN | apply below_drew1) | exact HB.out)) hb); have n1_ := Aside0.mk (hbox); have n2_ := Aside0.mk ((by rw [hg]; exact (below_size (by repeat (first | (with_reducible first | exact HB.out | apply below_alloc | apply pw_below_drewN | apply below_drew1) | exact HB.out))) : w.heap.size ≤ gb158)); have n3_ := Aside0.mk ((by rw [hg]; exact (below_size (by repeat (first | (with_reducible first | exact HB.out | apply below_alloc | apply pw_below_drewN | apply below_drew1) | exact HB.out))) : w.heap.size ≤ gb158)); clear HB; have HB := n0_; have BK158 := n1_; have GW158 := n2_; have GE158 := n3_; clear n0_ n1_ n2_ n3_; clear hb hbox hg) | (go_at_call 8; (with_reducible refine (tincturelaw19_awake.calls  false _ A2.out).mono ?_); rintro e w88 ⟨rfl, hb⟩; have n0_ := Aside0.mk (blk_below (g := gb158) (o := .cells #[.int .i64 a0_0, .int .i64 a0_1, .int .i64 a0_2, .int .i64 a0_3, .int .u32 a0_4] 25 (0, 0)) (by (with_reducible repeat (first | refine blk_drewN ?_ _ | refine blk_drew ?_ | refine blk_alloc ?_ _)); exact BK158.out) hb); have n1_ := Aside0.mk (below_step (by repeat (first | (with_reducible first | exact HB.out | apply below_alloc | apply pw_below_drewN | apply below_drew1 | refine below_set ?_ GE158.out) | exact HB.out)) hb); clear BK158; clear HB; have BK158 := n0_; have HB := n1_; clear n0_ n1_; (try clear hb); (try clear hb2); (try clear hk); (try clear hi))); try go_wp2_with (first | ((with_reducible refine gate_dst (N := 1) rfl ?_); (try (refine gate_guard (by rfl) ?_; dsimp only)); refine box_event ?hg (N := 1) ?hd (cs := #[.int .i64 a0_0, .int .i64 a0_1, .int .i64 a0_2, .int .i64 a0_3, .int .u32 a0_4]) (t := 25) ?hr ?_; (case hd => rfl); (case hg => rfl); (case hr => first | (go_simp; done) | (go_simp; rfl)); intro gb158 hg w87 hbox hb; have n0_ := Aside0.mk (below_step (by repeat (first | (with_reducible first | exact HB.out | apply below_alloc | apply pw_below_drewN | apply below_drew1) | exact HB.out)) hb); have n1_ := Aside0.mk (hbox); have n2_ := Aside0.mk ((by rw [hg]; exact (below_size (by repeat (first | (with_reducible first | exact HB.out | apply below_alloc | apply pw_below_drewN | apply below_drew1) | exact HB.out))) : w.heap.size ≤ gb158)); have n3_ := Aside0.mk ((by rw [hg]; exact (below_size (by repeat (first | (with_reducible first | exact HB.out | apply below_alloc | apply pw_below_drewN | apply below_drew1) | exact HB.out))) : w.heap.size ≤ gb158)); clear HB; have HB := n0_; have BK158 := n1_; have GW158 := n2_; have GE158 := n3_; clear n0_ n1_ n2_ n3_; clear hb hbox hg) | (go_at_call 8; (with_reducible refine (tincturelaw19_awake.calls  false _ A2.out).mono ?_); rintro e w88 ⟨rfl, hb⟩; have n0_ := Aside0.mk (blk_below (g := gb158) (o := .cells #[.int .i64 a0_0, .int .i64 a0_1, .int .i64 a0_2, .int .i64 a0_3, .int .u32 a0_4] 25 (0, 0)) (by (with_reducible repeat (first | refine blk_drewN ?_ _ | refine blk_drew ?_ | refine blk_alloc ?_ _)); exact BK158.out) hb); have n1_ := Aside0.mk (below_step (by repeat (first | (with_reducible first | exact HB.out | apply below_alloc | apply pw_below_drewN | apply below_drew1 | refine below_set ?_ GE158.out) | exact HB.out)) hb); clear BK158; clear HB; have BK158 := n0_; have HB := n1_; clear n0_ n1_; (try clear hb); (try clear hb2); (try clear hk); (try clear hi))))
    go_ret
    exact ⟨by first | rfl | (simp [errW_none, errW_some] <;> rfl) | (simp [*, errW_none, errW_some] <;> rfl), by repeat (first | (with_reducible first | exact HB.out | apply below_alloc | apply pw_below_drewN | apply below_drew1 | refine below_set ?_ GE158.out) | exact HB.out)⟩
end Go.Proofs.YtefijnbhdjpfpaaDoor.Ir
