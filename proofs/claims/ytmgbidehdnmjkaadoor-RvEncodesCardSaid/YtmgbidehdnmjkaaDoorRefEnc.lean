/- What the reference's Encode answers: an own walk, case by case. -/
import Derived.Test.YtmgbidehdnmjkaaDoorPureD
import Derived.Test.YtmgbidehdnmjkaaDoorR7
import Derived.Test.YtmgbidehdnmjkaaDoorR8
import Derived.Lib.Hide
namespace Go.Proofs.YtmgbidehdnmjkaaDoor.Rv
open Go Go.RowKit Go.Proofs.YtmgbidehdnmjkaaDoorW.PrintWords Go.Proofs.YtmgbidehdnmjkaaDoorW.PrintLast Go.Proofs.YtmgbidehdnmjkaaDoorW.PrintMore
attribute [local go_sem] max2_int min2_int max_two min_two max_three min_three max_four min_four   -- for this text's walks alone
set_option linter.unusedVariables false
set_option linter.unusedSimpArgs false
/-- A pair is answered: a number that may be whatever where it is not asked, and a bool. -/
def Pair (ok : Bool) (Q : Int → Prop) (w : World) (e : Ending) (w' : World) : Prop := ∃ x, e = .returned (.tuple #[.int .u32 x, .bool ok]) ∧ Q x ∧ Below w.heap.size w w'
set_option maxHeartbeats 8000000 in
set_option maxRecDepth 100000 in
theorem enc_none_lo (a0_0 a0_1 a0_2 a0_3 a0_4 : Int) (w : World) (h0 : a0_0 < 1) :
    Calls Tryd.prog 19 #[.agg #[.int .i64 a0_0, .int .i64 a0_1, .int .i64 a0_2, .int .i64 a0_3, .int .i32 a0_4]] w (Pair false (fun _ => True) w) := by
  have hu25 := Tryd.underlying25
  have HB := Aside0.mk (Below.refl w.heap.size w)
  have d0 : decide (a0_0 < 1) = true := decide_eq_true h0
  clear h0
  go_enter Tryd.func19, Tryd.ntmps19
  go_wp2_with (first | ((with_reducible refine gate_dst (N := 1) rfl ?_); refine box_event ?hg (N := 1) ?hd (cs := #[.int .i64 a0_0, .int .i64 a0_1, .int .i64 a0_2, .int .i64 a0_3, .int .i32 a0_4]) (t := 25) ?hr ?_; (case hd => rfl); (case hg => rfl); (case hr => first | (go_simp; done) | (go_simp; rfl)); intro gb212 hg w3 hbox hb; have n0_ := Aside0.mk (below_step (by repeat (first | (with_reducible first | exact HB.out | apply below_alloc | apply pw_below_drewN | apply below_drew1) | exact HB.out)) hb); have n1_ := Aside0.mk (hbox); have n2_ := Aside0.mk ((by rw [hg]; exact (below_size (by repeat (first | (with_reducible first | exact HB.out | apply below_alloc | apply pw_below_drewN | apply below_drew1) | exact HB.out))) : w.heap.size ≤ gb212)); have n3_ := Aside0.mk ((by rw [hg]; exact (below_size (by repeat (first | (with_reducible first | exact HB.out | apply below_alloc | apply pw_below_drewN | apply below_drew1) | exact HB.out))) : w.heap.size ≤ gb212)); clear HB; have HB := n0_; have BK212 := n1_; have GW212 := n2_; have GE212 := n3_; clear n0_ n1_ n2_ n3_; clear hb hbox hg; have hczw3_0 : w3.cell? ⟨gb212, 0, none⟩ = some (.int .i64 a0_0) := (blk_cell BK212.out 0).trans rfl; have hfzw3_0 := blk_frozen BK212.out 0; have hczw3_1 : w3.cell? ⟨gb212, 1, none⟩ = some (.int .i64 a0_1) := (blk_cell BK212.out 1).trans rfl; have hfzw3_1 := blk_frozen BK212.out 1; have hczw3_2 : w3.cell? ⟨gb212, 2, none⟩ = some (.int .i64 a0_2) := (blk_cell BK212.out 2).trans rfl; have hfzw3_2 := blk_frozen BK212.out 2; have hczw3_3 : w3.cell? ⟨gb212, 3, none⟩ = some (.int .i64 a0_3) := (blk_cell BK212.out 3).trans rfl; have hfzw3_3 := blk_frozen BK212.out 3; have hczw3_4 : w3.cell? ⟨gb212, 4, none⟩ = some (.int .i32 a0_4) := (blk_cell BK212.out 4).trans rfl; have hfzw3_4 := blk_frozen BK212.out 4))
  go_ret2
  exact ⟨_, rfl, trivial, (by repeat (first | (with_reducible first | exact HB.out | apply below_alloc | apply pw_below_drewN | apply below_drew1 | refine below_set ?_ GE212.out) | exact HB.out))⟩
set_option maxHeartbeats 8000000 in
set_option maxRecDepth 100000 in
theorem enc_none_hi (a0_0 a0_1 a0_2 a0_3 a0_4 : Int) (w : World) (h0 : 49 < a0_0) :
    Calls Tryd.prog 19 #[.agg #[.int .i64 a0_0, .int .i64 a0_1, .int .i64 a0_2, .int .i64 a0_3, .int .i32 a0_4]] w (Pair false (fun _ => True) w) := by
  have hu25 := Tryd.underlying25
  have HB := Aside0.mk (Below.refl w.heap.size w)
  have d0 : decide (a0_0 < 1) = false := decide_eq_false (by omega)
  have d1 : decide (49 < a0_0) = true := decide_eq_true h0
  clear h0
  go_enter Tryd.func19, Tryd.ntmps19
  go_wp2_with (first | ((with_reducible refine gate_dst (N := 1) rfl ?_); refine box_event ?hg (N := 1) ?hd (cs := #[.int .i64 a0_0, .int .i64 a0_1, .int .i64 a0_2, .int .i64 a0_3, .int .i32 a0_4]) (t := 25) ?hr ?_; (case hd => rfl); (case hg => rfl); (case hr => first | (go_simp; done) | (go_simp; rfl)); intro gb212 hg w3 hbox hb; have n0_ := Aside0.mk (below_step (by repeat (first | (with_reducible first | exact HB.out | apply below_alloc | apply pw_below_drewN | apply below_drew1) | exact HB.out)) hb); have n1_ := Aside0.mk (hbox); have n2_ := Aside0.mk ((by rw [hg]; exact (below_size (by repeat (first | (with_reducible first | exact HB.out | apply below_alloc | apply pw_below_drewN | apply below_drew1) | exact HB.out))) : w.heap.size ≤ gb212)); have n3_ := Aside0.mk ((by rw [hg]; exact (below_size (by repeat (first | (with_reducible first | exact HB.out | apply below_alloc | apply pw_below_drewN | apply below_drew1) | exact HB.out))) : w.heap.size ≤ gb212)); clear HB; have HB := n0_; have BK212 := n1_; have GW212 := n2_; have GE212 := n3_; clear n0_ n1_ n2_ n3_; clear hb hbox hg; have hczw3_0 : w3.cell? ⟨gb212, 0, none⟩ = some (.int .i64 a0_0) := (blk_cell BK212.out 0).trans rfl; have hfzw3_0 := blk_frozen BK212.out 0; have hczw3_1 : w3.cell? ⟨gb212, 1, none⟩ = some (.int .i64 a0_1) := (blk_cell BK212.out 1).trans rfl; have hfzw3_1 := blk_frozen BK212.out 1; have hczw3_2 : w3.cell? ⟨gb212, 2, none⟩ = some (.int .i64 a0_2) := (blk_cell BK212.out 2).trans rfl; have hfzw3_2 := blk_frozen BK212.out 2; have hczw3_3 : w3.cell? ⟨gb212, 3, none⟩ = some (.int .i64 a0_3) := (blk_cell BK212.out 3).trans rfl; have hfzw3_3 := blk_frozen BK212.out 3; have hczw3_4 : w3.cell? ⟨gb212, 4, none⟩ = some (.int .i32 a0_4) := (blk_cell BK212.out 4).trans rfl; have hfzw3_4 := blk_frozen BK212.out 4))
  go_ret2
  exact ⟨_, rfl, trivial, (by repeat (first | (with_reducible first | exact HB.out | apply below_alloc | apply pw_below_drewN | apply below_drew1 | refine below_set ?_ GE212.out) | exact HB.out))⟩
set_option maxHeartbeats 8000000 in
set_option maxRecDepth 100000 in
theorem enc_reg0 (a0_0 a0_1 a0_2 a0_3 a0_4 : Int) (w : World) (hr1 : tinctureref5_reg.f a0_1 = some false) (h0 : 1 ≤ a0_0) (h1 : a0_0 ≤ 49) :
    Calls Tryd.prog 19 #[.agg #[.int .i64 a0_0, .int .i64 a0_1, .int .i64 a0_2, .int .i64 a0_3, .int .i32 a0_4]] w (Pair false (fun _ => True) w) := by
  have hu25 := Tryd.underlying25
  have HB := Aside0.mk (Below.refl w.heap.size w)
  have R1 := Aside0.mk hr1
  clear hr1
  have d0 : decide (a0_0 < 1) = false := decide_eq_false (by omega)
  have d1 : decide (49 < a0_0) = false := decide_eq_false (by omega)
  clear h0 h1
  go_enter Tryd.func19, Tryd.ntmps19
  go_wp2_with (first | ((with_reducible refine gate_dst (N := 1) rfl ?_); refine box_event ?hg (N := 1) ?hd (cs := #[.int .i64 a0_0, .int .i64 a0_1, .int .i64 a0_2, .int .i64 a0_3, .int .i32 a0_4]) (t := 25) ?hr ?_; (case hd => rfl); (case hg => rfl); (case hr => first | (go_simp; done) | (go_simp; rfl)); intro gb212 hg w3 hbox hb; have n0_ := Aside0.mk (below_step (by repeat (first | (with_reducible first | exact HB.out | apply below_alloc | apply pw_below_drewN | apply below_drew1) | exact HB.out)) hb); have n1_ := Aside0.mk (hbox); have n2_ := Aside0.mk ((by rw [hg]; exact (below_size (by repeat (first | (with_reducible first | exact HB.out | apply below_alloc | apply pw_below_drewN | apply below_drew1) | exact HB.out))) : w.heap.size ≤ gb212)); have n3_ := Aside0.mk ((by rw [hg]; exact (below_size (by repeat (first | (with_reducible first | exact HB.out | apply below_alloc | apply pw_below_drewN | apply below_drew1) | exact HB.out))) : w.heap.size ≤ gb212)); clear HB; have HB := n0_; have BK212 := n1_; have GW212 := n2_; have GE212 := n3_; clear n0_ n1_ n2_ n3_; clear hb hbox hg; have hczw3_0 : w3.cell? ⟨gb212, 0, none⟩ = some (.int .i64 a0_0) := (blk_cell BK212.out 0).trans rfl; have hfzw3_0 := blk_frozen BK212.out 0; have hczw3_1 : w3.cell? ⟨gb212, 1, none⟩ = some (.int .i64 a0_1) := (blk_cell BK212.out 1).trans rfl; have hfzw3_1 := blk_frozen BK212.out 1; have hczw3_2 : w3.cell? ⟨gb212, 2, none⟩ = some (.int .i64 a0_2) := (blk_cell BK212.out 2).trans rfl; have hfzw3_2 := blk_frozen BK212.out 2; have hczw3_3 : w3.cell? ⟨gb212, 3, none⟩ = some (.int .i64 a0_3) := (blk_cell BK212.out 3).trans rfl; have hfzw3_3 := blk_frozen BK212.out 3; have hczw3_4 : w3.cell? ⟨gb212, 4, none⟩ = some (.int .i32 a0_4) := (blk_cell BK212.out 4).trans rfl; have hfzw3_4 := blk_frozen BK212.out 4) | (go_at_call 37; (with_reducible refine (tinctureref5_reg.calls a0_1 false _ R1.out).mono ?_); rintro e w' ⟨rfl, ⟨nd, rfl⟩⟩))
  go_ret2
  exact ⟨_, rfl, trivial, (by repeat (first | (with_reducible first | exact HB.out | apply below_alloc | apply pw_below_drewN | apply below_drew1 | refine below_set ?_ GE212.out) | exact HB.out))⟩
set_option maxHeartbeats 8000000 in
set_option maxRecDepth 100000 in
theorem enc_reg1 (a0_0 a0_1 a0_2 a0_3 a0_4 : Int) (w : World) (hr1 : tinctureref5_reg.f a0_1 = some true) (hr2 : tinctureref5_reg.f a0_2 = some false) (h0 : 1 ≤ a0_0) (h1 : a0_0 ≤ 49) :
    Calls Tryd.prog 19 #[.agg #[.int .i64 a0_0, .int .i64 a0_1, .int .i64 a0_2, .int .i64 a0_3, .int .i32 a0_4]] w (Pair false (fun _ => True) w) := by
  have hu25 := Tryd.underlying25
  have HB := Aside0.mk (Below.refl w.heap.size w)
  have R1 := Aside0.mk hr1
  have R2 := Aside0.mk hr2
  clear hr1 hr2
  have d0 : decide (a0_0 < 1) = false := decide_eq_false (by omega)
  have d1 : decide (49 < a0_0) = false := decide_eq_false (by omega)
  clear h0 h1
  go_enter Tryd.func19, Tryd.ntmps19
  go_wp2_with (first | ((with_reducible refine gate_dst (N := 1) rfl ?_); refine box_event ?hg (N := 1) ?hd (cs := #[.int .i64 a0_0, .int .i64 a0_1, .int .i64 a0_2, .int .i64 a0_3, .int .i32 a0_4]) (t := 25) ?hr ?_; (case hd => rfl); (case hg => rfl); (case hr => first | (go_simp; done) | (go_simp; rfl)); intro gb212 hg w3 hbox hb; have n0_ := Aside0.mk (below_step (by repeat (first | (with_reducible first | exact HB.out | apply below_alloc | apply pw_below_drewN | apply below_drew1) | exact HB.out)) hb); have n1_ := Aside0.mk (hbox); have n2_ := Aside0.mk ((by rw [hg]; exact (below_size (by repeat (first | (with_reducible first | exact HB.out | apply below_alloc | apply pw_below_drewN | apply below_drew1) | exact HB.out))) : w.heap.size ≤ gb212)); have n3_ := Aside0.mk ((by rw [hg]; exact (below_size (by repeat (first | (with_reducible first | exact HB.out | apply below_alloc | apply pw_below_drewN | apply below_drew1) | exact HB.out))) : w.heap.size ≤ gb212)); clear HB; have HB := n0_; have BK212 := n1_; have GW212 := n2_; have GE212 := n3_; clear n0_ n1_ n2_ n3_; clear hb hbox hg; have hczw3_0 : w3.cell? ⟨gb212, 0, none⟩ = some (.int .i64 a0_0) := (blk_cell BK212.out 0).trans rfl; have hfzw3_0 := blk_frozen BK212.out 0; have hczw3_1 : w3.cell? ⟨gb212, 1, none⟩ = some (.int .i64 a0_1) := (blk_cell BK212.out 1).trans rfl; have hfzw3_1 := blk_frozen BK212.out 1; have hczw3_2 : w3.cell? ⟨gb212, 2, none⟩ = some (.int .i64 a0_2) := (blk_cell BK212.out 2).trans rfl; have hfzw3_2 := blk_frozen BK212.out 2; have hczw3_3 : w3.cell? ⟨gb212, 3, none⟩ = some (.int .i64 a0_3) := (blk_cell BK212.out 3).trans rfl; have hfzw3_3 := blk_frozen BK212.out 3; have hczw3_4 : w3.cell? ⟨gb212, 4, none⟩ = some (.int .i32 a0_4) := (blk_cell BK212.out 4).trans rfl; have hfzw3_4 := blk_frozen BK212.out 4) | (go_at_call 37; (with_reducible refine (tinctureref5_reg.calls a0_1 true _ R1.out).mono ?_); rintro e w' ⟨rfl, ⟨nd, rfl⟩⟩) | (go_at_call 37; (with_reducible refine (tinctureref5_reg.calls a0_2 false _ R2.out).mono ?_); rintro e w' ⟨rfl, ⟨nd, rfl⟩⟩))
  go_ret2
  exact ⟨_, rfl, trivial, (by repeat (first | (with_reducible first | exact HB.out | apply below_alloc | apply pw_below_drewN | apply below_drew1 | refine below_set ?_ GE212.out) | exact HB.out))⟩
set_option maxHeartbeats 8000000 in
set_option maxRecDepth 100000 in
theorem enc_reg2 (a0_0 a0_1 a0_2 a0_3 a0_4 : Int) (w : World) (hr1 : tinctureref5_reg.f a0_1 = some true) (hr2 : tinctureref5_reg.f a0_2 = some true) (hr3 : tinctureref5_reg.f a0_3 = some false) (h0 : 1 ≤ a0_0) (h1 : a0_0 ≤ 49) :
    Calls Tryd.prog 19 #[.agg #[.int .i64 a0_0, .int .i64 a0_1, .int .i64 a0_2, .int .i64 a0_3, .int .i32 a0_4]] w (Pair false (fun _ => True) w) := by
  have hu25 := Tryd.underlying25
  have HB := Aside0.mk (Below.refl w.heap.size w)
  have R1 := Aside0.mk hr1
  have R2 := Aside0.mk hr2
  have R3 := Aside0.mk hr3
  clear hr1 hr2 hr3
  have d0 : decide (a0_0 < 1) = false := decide_eq_false (by omega)
  have d1 : decide (49 < a0_0) = false := decide_eq_false (by omega)
  clear h0 h1
  go_enter Tryd.func19, Tryd.ntmps19
  go_wp2_with (first | ((with_reducible refine gate_dst (N := 1) rfl ?_); refine box_event ?hg (N := 1) ?hd (cs := #[.int .i64 a0_0, .int .i64 a0_1, .int .i64 a0_2, .int .i64 a0_3, .int .i32 a0_4]) (t := 25) ?hr ?_; (case hd => rfl); (case hg => rfl); (case hr => first | (go_simp; done) | (go_simp; rfl)); intro gb212 hg w3 hbox hb; have n0_ := Aside0.mk (below_step (by repeat (first | (with_reducible first | exact HB.out | apply below_alloc | apply pw_below_drewN | apply below_drew1) | exact HB.out)) hb); have n1_ := Aside0.mk (hbox); have n2_ := Aside0.mk ((by rw [hg]; exact (below_size (by repeat (first | (with_reducible first | exact HB.out | apply below_alloc | apply pw_below_drewN | apply below_drew1) | exact HB.out))) : w.heap.size ≤ gb212)); have n3_ := Aside0.mk ((by rw [hg]; exact (below_size (by repeat (first | (with_reducible first | exact HB.out | apply below_alloc | apply pw_below_drewN | apply below_drew1) | exact HB.out))) : w.heap.size ≤ gb212)); clear HB; have HB := n0_; have BK212 := n1_; have GW212 := n2_; have GE212 := n3_; clear n0_ n1_ n2_ n3_; clear hb hbox hg; have hczw3_0 : w3.cell? ⟨gb212, 0, none⟩ = some (.int .i64 a0_0) := (blk_cell BK212.out 0).trans rfl; have hfzw3_0 := blk_frozen BK212.out 0; have hczw3_1 : w3.cell? ⟨gb212, 1, none⟩ = some (.int .i64 a0_1) := (blk_cell BK212.out 1).trans rfl; have hfzw3_1 := blk_frozen BK212.out 1; have hczw3_2 : w3.cell? ⟨gb212, 2, none⟩ = some (.int .i64 a0_2) := (blk_cell BK212.out 2).trans rfl; have hfzw3_2 := blk_frozen BK212.out 2; have hczw3_3 : w3.cell? ⟨gb212, 3, none⟩ = some (.int .i64 a0_3) := (blk_cell BK212.out 3).trans rfl; have hfzw3_3 := blk_frozen BK212.out 3; have hczw3_4 : w3.cell? ⟨gb212, 4, none⟩ = some (.int .i32 a0_4) := (blk_cell BK212.out 4).trans rfl; have hfzw3_4 := blk_frozen BK212.out 4) | (go_at_call 37; (with_reducible refine (tinctureref5_reg.calls a0_1 true _ R1.out).mono ?_); rintro e w' ⟨rfl, ⟨nd, rfl⟩⟩) | (go_at_call 37; (with_reducible refine (tinctureref5_reg.calls a0_2 true _ R2.out).mono ?_); rintro e w' ⟨rfl, ⟨nd, rfl⟩⟩) | (go_at_call 37; (with_reducible refine (tinctureref5_reg.calls a0_3 false _ R3.out).mono ?_); rintro e w' ⟨rfl, ⟨nd, rfl⟩⟩))
  go_ret2
  exact ⟨_, rfl, trivial, (by repeat (first | (with_reducible first | exact HB.out | apply below_alloc | apply pw_below_drewN | apply below_drew1 | refine below_set ?_ GE212.out) | exact HB.out))⟩
set_option maxHeartbeats 8000000 in
set_option maxRecDepth 100000 in
theorem enc_U0 (a0_0 a0_1 a0_2 a0_3 a0_4 : Int) (w : World) (o f p : Int) (hr1 : tinctureref5_reg.f a0_1 = some true) (hr2 : tinctureref5_reg.f a0_2 = some true) (hr3 : tinctureref5_reg.f a0_3 = some true) (hf : tinctureref5_form.f a0_0 = some (o, f, p)) (h0 : 1 ≤ a0_0) (h1 : a0_0 ≤ 2) (zb : (a0_2 == 0) = false) :
    Calls Tryd.prog 19 #[.agg #[.int .i64 a0_0, .int .i64 a0_1, .int .i64 a0_2, .int .i64 a0_3, .int .i32 a0_4]] w (Pair false (fun _ => True) w) := by
  have hu25 := Tryd.underlying25
  have HB := Aside0.mk (Below.refl w.heap.size w)
  have R1 := Aside0.mk hr1
  have R2 := Aside0.mk hr2
  have R3 := Aside0.mk hr3
  have FF := Aside0.mk hf
  clear hr1 hr2 hr3 hf
  have d0 : decide (a0_0 < 1) = false := decide_eq_false (by omega)
  have d1 : decide (49 < a0_0) = false := decide_eq_false (by omega)
  have e0 : decide (a0_0 ≤ 2) = true := decide_eq_true (by omega)
  have e1 : (a0_0 == 3) = false := beq_eq_false_iff_ne.mpr (by omega)
  have e2 : (a0_0 == 4) = false := beq_eq_false_iff_ne.mpr (by omega)
  have e3 : decide (11 ≤ a0_0) = false := decide_eq_false (by omega)
  have e4 : decide (a0_0 ≤ 15) = true := decide_eq_true (by omega)
  have e5 : decide (19 ≤ a0_0) = false := decide_eq_false (by omega)
  have e6 : decide (a0_0 ≤ 24) = true := decide_eq_true (by omega)
  have e7 : decide (a0_0 ≤ 10) = true := decide_eq_true (by omega)
  have e8 : decide (a0_0 ≤ 18) = true := decide_eq_true (by omega)
  have e9 : decide (a0_0 ≤ 27) = true := decide_eq_true (by omega)
  have e10 : decide (a0_0 ≤ 45) = true := decide_eq_true (by omega)
  clear h0 h1
  go_enter Tryd.func19, Tryd.ntmps19
  go_wp2_with (first | ((with_reducible refine gate_dst (N := 1) rfl ?_); refine box_event ?hg (N := 1) ?hd (cs := #[.int .i64 a0_0, .int .i64 a0_1, .int .i64 a0_2, .int .i64 a0_3, .int .i32 a0_4]) (t := 25) ?hr ?_; (case hd => rfl); (case hg => rfl); (case hr => first | (go_simp; done) | (go_simp; rfl)); intro gb212 hg w3 hbox hb; have n0_ := Aside0.mk (below_step (by repeat (first | (with_reducible first | exact HB.out | apply below_alloc | apply pw_below_drewN | apply below_drew1) | exact HB.out)) hb); have n1_ := Aside0.mk (hbox); have n2_ := Aside0.mk ((by rw [hg]; exact (below_size (by repeat (first | (with_reducible first | exact HB.out | apply below_alloc | apply pw_below_drewN | apply below_drew1) | exact HB.out))) : w.heap.size ≤ gb212)); have n3_ := Aside0.mk ((by rw [hg]; exact (below_size (by repeat (first | (with_reducible first | exact HB.out | apply below_alloc | apply pw_below_drewN | apply below_drew1) | exact HB.out))) : w.heap.size ≤ gb212)); clear HB; have HB := n0_; have BK212 := n1_; have GW212 := n2_; have GE212 := n3_; clear n0_ n1_ n2_ n3_; clear hb hbox hg; have hczw3_0 : w3.cell? ⟨gb212, 0, none⟩ = some (.int .i64 a0_0) := (blk_cell BK212.out 0).trans rfl; have hfzw3_0 := blk_frozen BK212.out 0; have hczw3_1 : w3.cell? ⟨gb212, 1, none⟩ = some (.int .i64 a0_1) := (blk_cell BK212.out 1).trans rfl; have hfzw3_1 := blk_frozen BK212.out 1; have hczw3_2 : w3.cell? ⟨gb212, 2, none⟩ = some (.int .i64 a0_2) := (blk_cell BK212.out 2).trans rfl; have hfzw3_2 := blk_frozen BK212.out 2; have hczw3_3 : w3.cell? ⟨gb212, 3, none⟩ = some (.int .i64 a0_3) := (blk_cell BK212.out 3).trans rfl; have hfzw3_3 := blk_frozen BK212.out 3; have hczw3_4 : w3.cell? ⟨gb212, 4, none⟩ = some (.int .i32 a0_4) := (blk_cell BK212.out 4).trans rfl; have hfzw3_4 := blk_frozen BK212.out 4) | (go_at_call 37; (with_reducible refine (tinctureref5_reg.calls a0_1 true _ R1.out).mono ?_); rintro e w' ⟨rfl, ⟨nd, rfl⟩⟩) | (go_at_call 37; (with_reducible refine (tinctureref5_reg.calls a0_2 true _ R2.out).mono ?_); rintro e w' ⟨rfl, ⟨nd, rfl⟩⟩) | (go_at_call 37; (with_reducible refine (tinctureref5_reg.calls a0_3 true _ R3.out).mono ?_); rintro e w' ⟨rfl, ⟨nd, rfl⟩⟩) | (go_at_call 29; (with_reducible refine (tinctureref5_form.calls a0_0 o f p _ FF.out).mono ?_); rintro e w22 ⟨rfl, hb⟩; have n0_ := Aside0.mk (blk_below (g := gb212) (o := .cells #[.int .i64 a0_0, .int .i64 a0_1, .int .i64 a0_2, .int .i64 a0_3, .int .i32 a0_4] 25 (0, 0)) (by (with_reducible repeat (first | refine blk_drewN ?_ _ | refine blk_drew ?_ | refine blk_alloc ?_ _)); exact BK212.out) hb); have n1_ := Aside0.mk (below_step (by repeat (first | (with_reducible first | exact HB.out | apply below_alloc | apply pw_below_drewN | apply below_drew1 | refine below_set ?_ GE212.out) | exact HB.out)) hb); clear BK212; clear HB; have BK212 := n0_; have HB := n1_; clear n0_ n1_; (try clear hb); have hczw22_0 : w22.cell? ⟨gb212, 0, none⟩ = some (.int .i64 a0_0) := (blk_cell BK212.out 0).trans rfl; have hfzw22_0 := blk_frozen BK212.out 0; have hczw22_1 : w22.cell? ⟨gb212, 1, none⟩ = some (.int .i64 a0_1) := (blk_cell BK212.out 1).trans rfl; have hfzw22_1 := blk_frozen BK212.out 1; have hczw22_2 : w22.cell? ⟨gb212, 2, none⟩ = some (.int .i64 a0_2) := (blk_cell BK212.out 2).trans rfl; have hfzw22_2 := blk_frozen BK212.out 2; have hczw22_3 : w22.cell? ⟨gb212, 3, none⟩ = some (.int .i64 a0_3) := (blk_cell BK212.out 3).trans rfl; have hfzw22_3 := blk_frozen BK212.out 3; have hczw22_4 : w22.cell? ⟨gb212, 4, none⟩ = some (.int .i32 a0_4) := (blk_cell BK212.out 4).trans rfl; have hfzw22_4 := blk_frozen BK212.out 4))
  go_quiet (fail)
  go_wp2
  go_ret2
  exact ⟨_, rfl, trivial, (by repeat (first | (with_reducible first | exact HB.out | apply below_alloc | apply pw_below_drewN | apply below_drew1 | refine below_set ?_ GE212.out) | exact HB.out))⟩
set_option maxHeartbeats 8000000 in
set_option maxRecDepth 100000 in
theorem enc_U1 (a0_0 a0_1 a0_2 a0_3 a0_4 : Int) (w : World) (o f p : Int) (hr1 : tinctureref5_reg.f a0_1 = some true) (hr2 : tinctureref5_reg.f a0_2 = some true) (hr3 : tinctureref5_reg.f a0_3 = some true) (hf : tinctureref5_form.f a0_0 = some (o, f, p)) (h0 : 1 ≤ a0_0) (h1 : a0_0 ≤ 2) (zb : (a0_2 == 0) = true) (zc : (a0_3 == 0) = false) :
    Calls Tryd.prog 19 #[.agg #[.int .i64 a0_0, .int .i64 a0_1, .int .i64 a0_2, .int .i64 a0_3, .int .i32 a0_4]] w (Pair false (fun _ => True) w) := by
  have hu25 := Tryd.underlying25
  have HB := Aside0.mk (Below.refl w.heap.size w)
  have R1 := Aside0.mk hr1
  have R2 := Aside0.mk hr2
  have R3 := Aside0.mk hr3
  have FF := Aside0.mk hf
  clear hr1 hr2 hr3 hf
  have d0 : decide (a0_0 < 1) = false := decide_eq_false (by omega)
  have d1 : decide (49 < a0_0) = false := decide_eq_false (by omega)
  have e0 : decide (a0_0 ≤ 2) = true := decide_eq_true (by omega)
  have e1 : (a0_0 == 3) = false := beq_eq_false_iff_ne.mpr (by omega)
  have e2 : (a0_0 == 4) = false := beq_eq_false_iff_ne.mpr (by omega)
  have e3 : decide (11 ≤ a0_0) = false := decide_eq_false (by omega)
  have e4 : decide (a0_0 ≤ 15) = true := decide_eq_true (by omega)
  have e5 : decide (19 ≤ a0_0) = false := decide_eq_false (by omega)
  have e6 : decide (a0_0 ≤ 24) = true := decide_eq_true (by omega)
  have e7 : decide (a0_0 ≤ 10) = true := decide_eq_true (by omega)
  have e8 : decide (a0_0 ≤ 18) = true := decide_eq_true (by omega)
  have e9 : decide (a0_0 ≤ 27) = true := decide_eq_true (by omega)
  have e10 : decide (a0_0 ≤ 45) = true := decide_eq_true (by omega)
  clear h0 h1
  go_enter Tryd.func19, Tryd.ntmps19
  go_wp2_with (first | ((with_reducible refine gate_dst (N := 1) rfl ?_); refine box_event ?hg (N := 1) ?hd (cs := #[.int .i64 a0_0, .int .i64 a0_1, .int .i64 a0_2, .int .i64 a0_3, .int .i32 a0_4]) (t := 25) ?hr ?_; (case hd => rfl); (case hg => rfl); (case hr => first | (go_simp; done) | (go_simp; rfl)); intro gb212 hg w3 hbox hb; have n0_ := Aside0.mk (below_step (by repeat (first | (with_reducible first | exact HB.out | apply below_alloc | apply pw_below_drewN | apply below_drew1) | exact HB.out)) hb); have n1_ := Aside0.mk (hbox); have n2_ := Aside0.mk ((by rw [hg]; exact (below_size (by repeat (first | (with_reducible first | exact HB.out | apply below_alloc | apply pw_below_drewN | apply below_drew1) | exact HB.out))) : w.heap.size ≤ gb212)); have n3_ := Aside0.mk ((by rw [hg]; exact (below_size (by repeat (first | (with_reducible first | exact HB.out | apply below_alloc | apply pw_below_drewN | apply below_drew1) | exact HB.out))) : w.heap.size ≤ gb212)); clear HB; have HB := n0_; have BK212 := n1_; have GW212 := n2_; have GE212 := n3_; clear n0_ n1_ n2_ n3_; clear hb hbox hg; have hczw3_0 : w3.cell? ⟨gb212, 0, none⟩ = some (.int .i64 a0_0) := (blk_cell BK212.out 0).trans rfl; have hfzw3_0 := blk_frozen BK212.out 0; have hczw3_1 : w3.cell? ⟨gb212, 1, none⟩ = some (.int .i64 a0_1) := (blk_cell BK212.out 1).trans rfl; have hfzw3_1 := blk_frozen BK212.out 1; have hczw3_2 : w3.cell? ⟨gb212, 2, none⟩ = some (.int .i64 a0_2) := (blk_cell BK212.out 2).trans rfl; have hfzw3_2 := blk_frozen BK212.out 2; have hczw3_3 : w3.cell? ⟨gb212, 3, none⟩ = some (.int .i64 a0_3) := (blk_cell BK212.out 3).trans rfl; have hfzw3_3 := blk_frozen BK212.out 3; have hczw3_4 : w3.cell? ⟨gb212, 4, none⟩ = some (.int .i32 a0_4) := (blk_cell BK212.out 4).trans rfl; have hfzw3_4 := blk_frozen BK212.out 4) | (go_at_call 37; (with_reducible refine (tinctureref5_reg.calls a0_1 true _ R1.out).mono ?_); rintro e w' ⟨rfl, ⟨nd, rfl⟩⟩) | (go_at_call 37; (with_reducible refine (tinctureref5_reg.calls a0_2 true _ R2.out).mono ?_); rintro e w' ⟨rfl, ⟨nd, rfl⟩⟩) | (go_at_call 37; (with_reducible refine (tinctureref5_reg.calls a0_3 true _ R3.out).mono ?_); rintro e w' ⟨rfl, ⟨nd, rfl⟩⟩) | (go_at_call 29; (with_reducible refine (tinctureref5_form.calls a0_0 o f p _ FF.out).mono ?_); rintro e w22 ⟨rfl, hb⟩; have n0_ := Aside0.mk (blk_below (g := gb212) (o := .cells #[.int .i64 a0_0, .int .i64 a0_1, .int .i64 a0_2, .int .i64 a0_3, .int .i32 a0_4] 25 (0, 0)) (by (with_reducible repeat (first | refine blk_drewN ?_ _ | refine blk_drew ?_ | refine blk_alloc ?_ _)); exact BK212.out) hb); have n1_ := Aside0.mk (below_step (by repeat (first | (with_reducible first | exact HB.out | apply below_alloc | apply pw_below_drewN | apply below_drew1 | refine below_set ?_ GE212.out) | exact HB.out)) hb); clear BK212; clear HB; have BK212 := n0_; have HB := n1_; clear n0_ n1_; (try clear hb); have hczw22_0 : w22.cell? ⟨gb212, 0, none⟩ = some (.int .i64 a0_0) := (blk_cell BK212.out 0).trans rfl; have hfzw22_0 := blk_frozen BK212.out 0; have hczw22_1 : w22.cell? ⟨gb212, 1, none⟩ = some (.int .i64 a0_1) := (blk_cell BK212.out 1).trans rfl; have hfzw22_1 := blk_frozen BK212.out 1; have hczw22_2 : w22.cell? ⟨gb212, 2, none⟩ = some (.int .i64 a0_2) := (blk_cell BK212.out 2).trans rfl; have hfzw22_2 := blk_frozen BK212.out 2; have hczw22_3 : w22.cell? ⟨gb212, 3, none⟩ = some (.int .i64 a0_3) := (blk_cell BK212.out 3).trans rfl; have hfzw22_3 := blk_frozen BK212.out 3; have hczw22_4 : w22.cell? ⟨gb212, 4, none⟩ = some (.int .i32 a0_4) := (blk_cell BK212.out 4).trans rfl; have hfzw22_4 := blk_frozen BK212.out 4))
  go_quiet (fail)
  go_wp2
  go_ret2
  exact ⟨_, rfl, trivial, (by repeat (first | (with_reducible first | exact HB.out | apply below_alloc | apply pw_below_drewN | apply below_drew1 | refine below_set ?_ GE212.out) | exact HB.out))⟩
set_option maxHeartbeats 8000000 in
set_option maxRecDepth 100000 in
theorem enc_U2 (a0_0 a0_1 a0_2 a0_3 a0_4 : Int) (w : World) (o f p : Int) (hr1 : tinctureref5_reg.f a0_1 = some true) (hr2 : tinctureref5_reg.f a0_2 = some true) (hr3 : tinctureref5_reg.f a0_3 = some true) (hf : tinctureref5_form.f a0_0 = some (o, f, p)) (h0 : 1 ≤ a0_0) (h1 : a0_0 ≤ 2) (zb : (a0_2 == 0) = true) (zc : (a0_3 == 0) = true) :
    Calls Tryd.prog 19 #[.agg #[.int .i64 a0_0, .int .i64 a0_1, .int .i64 a0_2, .int .i64 a0_3, .int .i32 a0_4]] w (Pair (Go.bits .and .u32 (a0_4 % 4294967296) 4095 == 0) (fun x => x = (Go.bits .or .u32 (Go.bits .or .u32 o (a0_1 % 4294967296 * 128 % 4294967296)) (a0_4 % 4294967296))) w) := by
  have hu25 := Tryd.underlying25
  have HB := Aside0.mk (Below.refl w.heap.size w)
  have R1 := Aside0.mk hr1
  have R2 := Aside0.mk hr2
  have R3 := Aside0.mk hr3
  have FF := Aside0.mk hf
  clear hr1 hr2 hr3 hf
  have d0 : decide (a0_0 < 1) = false := decide_eq_false (by omega)
  have d1 : decide (49 < a0_0) = false := decide_eq_false (by omega)
  have e0 : decide (a0_0 ≤ 2) = true := decide_eq_true (by omega)
  have e1 : (a0_0 == 3) = false := beq_eq_false_iff_ne.mpr (by omega)
  have e2 : (a0_0 == 4) = false := beq_eq_false_iff_ne.mpr (by omega)
  have e3 : decide (11 ≤ a0_0) = false := decide_eq_false (by omega)
  have e4 : decide (a0_0 ≤ 15) = true := decide_eq_true (by omega)
  have e5 : decide (19 ≤ a0_0) = false := decide_eq_false (by omega)
  have e6 : decide (a0_0 ≤ 24) = true := decide_eq_true (by omega)
  have e7 : decide (a0_0 ≤ 10) = true := decide_eq_true (by omega)
  have e8 : decide (a0_0 ≤ 18) = true := decide_eq_true (by omega)
  have e9 : decide (a0_0 ≤ 27) = true := decide_eq_true (by omega)
  have e10 : decide (a0_0 ≤ 45) = true := decide_eq_true (by omega)
  clear h0 h1
  go_enter Tryd.func19, Tryd.ntmps19
  go_wp2_with (first | ((with_reducible refine gate_dst (N := 1) rfl ?_); refine box_event ?hg (N := 1) ?hd (cs := #[.int .i64 a0_0, .int .i64 a0_1, .int .i64 a0_2, .int .i64 a0_3, .int .i32 a0_4]) (t := 25) ?hr ?_; (case hd => rfl); (case hg => rfl); (case hr => first | (go_simp; done) | (go_simp; rfl)); intro gb212 hg w3 hbox hb; have n0_ := Aside0.mk (below_step (by repeat (first | (with_reducible first | exact HB.out | apply below_alloc | apply pw_below_drewN | apply below_drew1) | exact HB.out)) hb); have n1_ := Aside0.mk (hbox); have n2_ := Aside0.mk ((by rw [hg]; exact (below_size (by repeat (first | (with_reducible first | exact HB.out | apply below_alloc | apply pw_below_drewN | apply below_drew1) | exact HB.out))) : w.heap.size ≤ gb212)); have n3_ := Aside0.mk ((by rw [hg]; exact (below_size (by repeat (first | (with_reducible first | exact HB.out | apply below_alloc | apply pw_below_drewN | apply below_drew1) | exact HB.out))) : w.heap.size ≤ gb212)); clear HB; have HB := n0_; have BK212 := n1_; have GW212 := n2_; have GE212 := n3_; clear n0_ n1_ n2_ n3_; clear hb hbox hg; have hczw3_0 : w3.cell? ⟨gb212, 0, none⟩ = some (.int .i64 a0_0) := (blk_cell BK212.out 0).trans rfl; have hfzw3_0 := blk_frozen BK212.out 0; have hczw3_1 : w3.cell? ⟨gb212, 1, none⟩ = some (.int .i64 a0_1) := (blk_cell BK212.out 1).trans rfl; have hfzw3_1 := blk_frozen BK212.out 1; have hczw3_2 : w3.cell? ⟨gb212, 2, none⟩ = some (.int .i64 a0_2) := (blk_cell BK212.out 2).trans rfl; have hfzw3_2 := blk_frozen BK212.out 2; have hczw3_3 : w3.cell? ⟨gb212, 3, none⟩ = some (.int .i64 a0_3) := (blk_cell BK212.out 3).trans rfl; have hfzw3_3 := blk_frozen BK212.out 3; have hczw3_4 : w3.cell? ⟨gb212, 4, none⟩ = some (.int .i32 a0_4) := (blk_cell BK212.out 4).trans rfl; have hfzw3_4 := blk_frozen BK212.out 4) | (go_at_call 37; (with_reducible refine (tinctureref5_reg.calls a0_1 true _ R1.out).mono ?_); rintro e w' ⟨rfl, ⟨nd, rfl⟩⟩) | (go_at_call 37; (with_reducible refine (tinctureref5_reg.calls a0_2 true _ R2.out).mono ?_); rintro e w' ⟨rfl, ⟨nd, rfl⟩⟩) | (go_at_call 37; (with_reducible refine (tinctureref5_reg.calls a0_3 true _ R3.out).mono ?_); rintro e w' ⟨rfl, ⟨nd, rfl⟩⟩) | (go_at_call 29; (with_reducible refine (tinctureref5_form.calls a0_0 o f p _ FF.out).mono ?_); rintro e w22 ⟨rfl, hb⟩; have n0_ := Aside0.mk (blk_below (g := gb212) (o := .cells #[.int .i64 a0_0, .int .i64 a0_1, .int .i64 a0_2, .int .i64 a0_3, .int .i32 a0_4] 25 (0, 0)) (by (with_reducible repeat (first | refine blk_drewN ?_ _ | refine blk_drew ?_ | refine blk_alloc ?_ _)); exact BK212.out) hb); have n1_ := Aside0.mk (below_step (by repeat (first | (with_reducible first | exact HB.out | apply below_alloc | apply pw_below_drewN | apply below_drew1 | refine below_set ?_ GE212.out) | exact HB.out)) hb); clear BK212; clear HB; have BK212 := n0_; have HB := n1_; clear n0_ n1_; (try clear hb); have hczw22_0 : w22.cell? ⟨gb212, 0, none⟩ = some (.int .i64 a0_0) := (blk_cell BK212.out 0).trans rfl; have hfzw22_0 := blk_frozen BK212.out 0; have hczw22_1 : w22.cell? ⟨gb212, 1, none⟩ = some (.int .i64 a0_1) := (blk_cell BK212.out 1).trans rfl; have hfzw22_1 := blk_frozen BK212.out 1; have hczw22_2 : w22.cell? ⟨gb212, 2, none⟩ = some (.int .i64 a0_2) := (blk_cell BK212.out 2).trans rfl; have hfzw22_2 := blk_frozen BK212.out 2; have hczw22_3 : w22.cell? ⟨gb212, 3, none⟩ = some (.int .i64 a0_3) := (blk_cell BK212.out 3).trans rfl; have hfzw22_3 := blk_frozen BK212.out 3; have hczw22_4 : w22.cell? ⟨gb212, 4, none⟩ = some (.int .i32 a0_4) := (blk_cell BK212.out 4).trans rfl; have hfzw22_4 := blk_frozen BK212.out 4))
  go_quiet (fail)
  go_wp2
  go_ret2
  exact ⟨_, rfl, rfl, (by repeat (first | (with_reducible first | exact HB.out | apply below_alloc | apply pw_below_drewN | apply below_drew1 | refine below_set ?_ GE212.out) | exact HB.out))⟩
set_option maxHeartbeats 8000000 in
set_option maxRecDepth 100000 in
theorem enc_J0 (a0_0 a0_1 a0_2 a0_3 a0_4 : Int) (w : World) (o f p : Int) (hr1 : tinctureref5_reg.f a0_1 = some true) (hr2 : tinctureref5_reg.f a0_2 = some true) (hr3 : tinctureref5_reg.f a0_3 = some true) (hf : tinctureref5_form.f a0_0 = some (o, f, p)) (h0 : 3 ≤ a0_0) (h1 : a0_0 ≤ 3) (zb : (a0_2 == 0) = false) :
    Calls Tryd.prog 19 #[.agg #[.int .i64 a0_0, .int .i64 a0_1, .int .i64 a0_2, .int .i64 a0_3, .int .i32 a0_4]] w (Pair false (fun _ => True) w) := by
  have hu25 := Tryd.underlying25
  have HB := Aside0.mk (Below.refl w.heap.size w)
  have R1 := Aside0.mk hr1
  have R2 := Aside0.mk hr2
  have R3 := Aside0.mk hr3
  have FF := Aside0.mk hf
  clear hr1 hr2 hr3 hf
  have d0 : decide (a0_0 < 1) = false := decide_eq_false (by omega)
  have d1 : decide (49 < a0_0) = false := decide_eq_false (by omega)
  have e0 : decide (a0_0 ≤ 2) = false := decide_eq_false (by omega)
  have e1 : (a0_0 == 3) = true := beq_iff_eq.mpr (by omega)
  have e2 : (a0_0 == 4) = false := beq_eq_false_iff_ne.mpr (by omega)
  have e3 : decide (11 ≤ a0_0) = false := decide_eq_false (by omega)
  have e4 : decide (a0_0 ≤ 15) = true := decide_eq_true (by omega)
  have e5 : decide (19 ≤ a0_0) = false := decide_eq_false (by omega)
  have e6 : decide (a0_0 ≤ 24) = true := decide_eq_true (by omega)
  have e7 : decide (a0_0 ≤ 10) = true := decide_eq_true (by omega)
  have e8 : decide (a0_0 ≤ 18) = true := decide_eq_true (by omega)
  have e9 : decide (a0_0 ≤ 27) = true := decide_eq_true (by omega)
  have e10 : decide (a0_0 ≤ 45) = true := decide_eq_true (by omega)
  clear h0 h1
  go_enter Tryd.func19, Tryd.ntmps19
  go_wp2_with (first | ((with_reducible refine gate_dst (N := 1) rfl ?_); refine box_event ?hg (N := 1) ?hd (cs := #[.int .i64 a0_0, .int .i64 a0_1, .int .i64 a0_2, .int .i64 a0_3, .int .i32 a0_4]) (t := 25) ?hr ?_; (case hd => rfl); (case hg => rfl); (case hr => first | (go_simp; done) | (go_simp; rfl)); intro gb212 hg w3 hbox hb; have n0_ := Aside0.mk (below_step (by repeat (first | (with_reducible first | exact HB.out | apply below_alloc | apply pw_below_drewN | apply below_drew1) | exact HB.out)) hb); have n1_ := Aside0.mk (hbox); have n2_ := Aside0.mk ((by rw [hg]; exact (below_size (by repeat (first | (with_reducible first | exact HB.out | apply below_alloc | apply pw_below_drewN | apply below_drew1) | exact HB.out))) : w.heap.size ≤ gb212)); have n3_ := Aside0.mk ((by rw [hg]; exact (below_size (by repeat (first | (with_reducible first | exact HB.out | apply below_alloc | apply pw_below_drewN | apply below_drew1) | exact HB.out))) : w.heap.size ≤ gb212)); clear HB; have HB := n0_; have BK212 := n1_; have GW212 := n2_; have GE212 := n3_; clear n0_ n1_ n2_ n3_; clear hb hbox hg; have hczw3_0 : w3.cell? ⟨gb212, 0, none⟩ = some (.int .i64 a0_0) := (blk_cell BK212.out 0).trans rfl; have hfzw3_0 := blk_frozen BK212.out 0; have hczw3_1 : w3.cell? ⟨gb212, 1, none⟩ = some (.int .i64 a0_1) := (blk_cell BK212.out 1).trans rfl; have hfzw3_1 := blk_frozen BK212.out 1; have hczw3_2 : w3.cell? ⟨gb212, 2, none⟩ = some (.int .i64 a0_2) := (blk_cell BK212.out 2).trans rfl; have hfzw3_2 := blk_frozen BK212.out 2; have hczw3_3 : w3.cell? ⟨gb212, 3, none⟩ = some (.int .i64 a0_3) := (blk_cell BK212.out 3).trans rfl; have hfzw3_3 := blk_frozen BK212.out 3; have hczw3_4 : w3.cell? ⟨gb212, 4, none⟩ = some (.int .i32 a0_4) := (blk_cell BK212.out 4).trans rfl; have hfzw3_4 := blk_frozen BK212.out 4) | (go_at_call 37; (with_reducible refine (tinctureref5_reg.calls a0_1 true _ R1.out).mono ?_); rintro e w' ⟨rfl, ⟨nd, rfl⟩⟩) | (go_at_call 37; (with_reducible refine (tinctureref5_reg.calls a0_2 true _ R2.out).mono ?_); rintro e w' ⟨rfl, ⟨nd, rfl⟩⟩) | (go_at_call 37; (with_reducible refine (tinctureref5_reg.calls a0_3 true _ R3.out).mono ?_); rintro e w' ⟨rfl, ⟨nd, rfl⟩⟩) | (go_at_call 29; (with_reducible refine (tinctureref5_form.calls a0_0 o f p _ FF.out).mono ?_); rintro e w22 ⟨rfl, hb⟩; have n0_ := Aside0.mk (blk_below (g := gb212) (o := .cells #[.int .i64 a0_0, .int .i64 a0_1, .int .i64 a0_2, .int .i64 a0_3, .int .i32 a0_4] 25 (0, 0)) (by (with_reducible repeat (first | refine blk_drewN ?_ _ | refine blk_drew ?_ | refine blk_alloc ?_ _)); exact BK212.out) hb); have n1_ := Aside0.mk (below_step (by repeat (first | (with_reducible first | exact HB.out | apply below_alloc | apply pw_below_drewN | apply below_drew1 | refine below_set ?_ GE212.out) | exact HB.out)) hb); clear BK212; clear HB; have BK212 := n0_; have HB := n1_; clear n0_ n1_; (try clear hb); have hczw22_0 : w22.cell? ⟨gb212, 0, none⟩ = some (.int .i64 a0_0) := (blk_cell BK212.out 0).trans rfl; have hfzw22_0 := blk_frozen BK212.out 0; have hczw22_1 : w22.cell? ⟨gb212, 1, none⟩ = some (.int .i64 a0_1) := (blk_cell BK212.out 1).trans rfl; have hfzw22_1 := blk_frozen BK212.out 1; have hczw22_2 : w22.cell? ⟨gb212, 2, none⟩ = some (.int .i64 a0_2) := (blk_cell BK212.out 2).trans rfl; have hfzw22_2 := blk_frozen BK212.out 2; have hczw22_3 : w22.cell? ⟨gb212, 3, none⟩ = some (.int .i64 a0_3) := (blk_cell BK212.out 3).trans rfl; have hfzw22_3 := blk_frozen BK212.out 3; have hczw22_4 : w22.cell? ⟨gb212, 4, none⟩ = some (.int .i32 a0_4) := (blk_cell BK212.out 4).trans rfl; have hfzw22_4 := blk_frozen BK212.out 4))
  go_quiet (fail)
  go_wp2
  go_ret2
  exact ⟨_, rfl, trivial, (by repeat (first | (with_reducible first | exact HB.out | apply below_alloc | apply pw_below_drewN | apply below_drew1 | refine below_set ?_ GE212.out) | exact HB.out))⟩
set_option maxHeartbeats 8000000 in
set_option maxRecDepth 100000 in
theorem enc_J1 (a0_0 a0_1 a0_2 a0_3 a0_4 : Int) (w : World) (o f p : Int) (hr1 : tinctureref5_reg.f a0_1 = some true) (hr2 : tinctureref5_reg.f a0_2 = some true) (hr3 : tinctureref5_reg.f a0_3 = some true) (hf : tinctureref5_form.f a0_0 = some (o, f, p)) (h0 : 3 ≤ a0_0) (h1 : a0_0 ≤ 3) (zb : (a0_2 == 0) = true) (zc : (a0_3 == 0) = false) :
    Calls Tryd.prog 19 #[.agg #[.int .i64 a0_0, .int .i64 a0_1, .int .i64 a0_2, .int .i64 a0_3, .int .i32 a0_4]] w (Pair false (fun _ => True) w) := by
  have hu25 := Tryd.underlying25
  have HB := Aside0.mk (Below.refl w.heap.size w)
  have R1 := Aside0.mk hr1
  have R2 := Aside0.mk hr2
  have R3 := Aside0.mk hr3
  have FF := Aside0.mk hf
  clear hr1 hr2 hr3 hf
  have d0 : decide (a0_0 < 1) = false := decide_eq_false (by omega)
  have d1 : decide (49 < a0_0) = false := decide_eq_false (by omega)
  have e0 : decide (a0_0 ≤ 2) = false := decide_eq_false (by omega)
  have e1 : (a0_0 == 3) = true := beq_iff_eq.mpr (by omega)
  have e2 : (a0_0 == 4) = false := beq_eq_false_iff_ne.mpr (by omega)
  have e3 : decide (11 ≤ a0_0) = false := decide_eq_false (by omega)
  have e4 : decide (a0_0 ≤ 15) = true := decide_eq_true (by omega)
  have e5 : decide (19 ≤ a0_0) = false := decide_eq_false (by omega)
  have e6 : decide (a0_0 ≤ 24) = true := decide_eq_true (by omega)
  have e7 : decide (a0_0 ≤ 10) = true := decide_eq_true (by omega)
  have e8 : decide (a0_0 ≤ 18) = true := decide_eq_true (by omega)
  have e9 : decide (a0_0 ≤ 27) = true := decide_eq_true (by omega)
  have e10 : decide (a0_0 ≤ 45) = true := decide_eq_true (by omega)
  clear h0 h1
  go_enter Tryd.func19, Tryd.ntmps19
  go_wp2_with (first | ((with_reducible refine gate_dst (N := 1) rfl ?_); refine box_event ?hg (N := 1) ?hd (cs := #[.int .i64 a0_0, .int .i64 a0_1, .int .i64 a0_2, .int .i64 a0_3, .int .i32 a0_4]) (t := 25) ?hr ?_; (case hd => rfl); (case hg => rfl); (case hr => first | (go_simp; done) | (go_simp; rfl)); intro gb212 hg w3 hbox hb; have n0_ := Aside0.mk (below_step (by repeat (first | (with_reducible first | exact HB.out | apply below_alloc | apply pw_below_drewN | apply below_drew1) | exact HB.out)) hb); have n1_ := Aside0.mk (hbox); have n2_ := Aside0.mk ((by rw [hg]; exact (below_size (by repeat (first | (with_reducible first | exact HB.out | apply below_alloc | apply pw_below_drewN | apply below_drew1) | exact HB.out))) : w.heap.size ≤ gb212)); have n3_ := Aside0.mk ((by rw [hg]; exact (below_size (by repeat (first | (with_reducible first | exact HB.out | apply below_alloc | apply pw_below_drewN | apply below_drew1) | exact HB.out))) : w.heap.size ≤ gb212)); clear HB; have HB := n0_; have BK212 := n1_; have GW212 := n2_; have GE212 := n3_; clear n0_ n1_ n2_ n3_; clear hb hbox hg; have hczw3_0 : w3.cell? ⟨gb212, 0, none⟩ = some (.int .i64 a0_0) := (blk_cell BK212.out 0).trans rfl; have hfzw3_0 := blk_frozen BK212.out 0; have hczw3_1 : w3.cell? ⟨gb212, 1, none⟩ = some (.int .i64 a0_1) := (blk_cell BK212.out 1).trans rfl; have hfzw3_1 := blk_frozen BK212.out 1; have hczw3_2 : w3.cell? ⟨gb212, 2, none⟩ = some (.int .i64 a0_2) := (blk_cell BK212.out 2).trans rfl; have hfzw3_2 := blk_frozen BK212.out 2; have hczw3_3 : w3.cell? ⟨gb212, 3, none⟩ = some (.int .i64 a0_3) := (blk_cell BK212.out 3).trans rfl; have hfzw3_3 := blk_frozen BK212.out 3; have hczw3_4 : w3.cell? ⟨gb212, 4, none⟩ = some (.int .i32 a0_4) := (blk_cell BK212.out 4).trans rfl; have hfzw3_4 := blk_frozen BK212.out 4) | (go_at_call 37; (with_reducible refine (tinctureref5_reg.calls a0_1 true _ R1.out).mono ?_); rintro e w' ⟨rfl, ⟨nd, rfl⟩⟩) | (go_at_call 37; (with_reducible refine (tinctureref5_reg.calls a0_2 true _ R2.out).mono ?_); rintro e w' ⟨rfl, ⟨nd, rfl⟩⟩) | (go_at_call 37; (with_reducible refine (tinctureref5_reg.calls a0_3 true _ R3.out).mono ?_); rintro e w' ⟨rfl, ⟨nd, rfl⟩⟩) | (go_at_call 29; (with_reducible refine (tinctureref5_form.calls a0_0 o f p _ FF.out).mono ?_); rintro e w22 ⟨rfl, hb⟩; have n0_ := Aside0.mk (blk_below (g := gb212) (o := .cells #[.int .i64 a0_0, .int .i64 a0_1, .int .i64 a0_2, .int .i64 a0_3, .int .i32 a0_4] 25 (0, 0)) (by (with_reducible repeat (first | refine blk_drewN ?_ _ | refine blk_drew ?_ | refine blk_alloc ?_ _)); exact BK212.out) hb); have n1_ := Aside0.mk (below_step (by repeat (first | (with_reducible first | exact HB.out | apply below_alloc | apply pw_below_drewN | apply below_drew1 | refine below_set ?_ GE212.out) | exact HB.out)) hb); clear BK212; clear HB; have BK212 := n0_; have HB := n1_; clear n0_ n1_; (try clear hb); have hczw22_0 : w22.cell? ⟨gb212, 0, none⟩ = some (.int .i64 a0_0) := (blk_cell BK212.out 0).trans rfl; have hfzw22_0 := blk_frozen BK212.out 0; have hczw22_1 : w22.cell? ⟨gb212, 1, none⟩ = some (.int .i64 a0_1) := (blk_cell BK212.out 1).trans rfl; have hfzw22_1 := blk_frozen BK212.out 1; have hczw22_2 : w22.cell? ⟨gb212, 2, none⟩ = some (.int .i64 a0_2) := (blk_cell BK212.out 2).trans rfl; have hfzw22_2 := blk_frozen BK212.out 2; have hczw22_3 : w22.cell? ⟨gb212, 3, none⟩ = some (.int .i64 a0_3) := (blk_cell BK212.out 3).trans rfl; have hfzw22_3 := blk_frozen BK212.out 3; have hczw22_4 : w22.cell? ⟨gb212, 4, none⟩ = some (.int .i32 a0_4) := (blk_cell BK212.out 4).trans rfl; have hfzw22_4 := blk_frozen BK212.out 4))
  go_quiet (fail)
  go_wp2
  go_ret2
  exact ⟨_, rfl, trivial, (by repeat (first | (with_reducible first | exact HB.out | apply below_alloc | apply pw_below_drewN | apply below_drew1 | refine below_set ?_ GE212.out) | exact HB.out))⟩
set_option maxHeartbeats 8000000 in
set_option maxRecDepth 100000 in
theorem enc_J2 (a0_0 a0_1 a0_2 a0_3 a0_4 : Int) (w : World) (o f p : Int) (lo : Bool) (hr1 : tinctureref5_reg.f a0_1 = some true) (hr2 : tinctureref5_reg.f a0_2 = some true) (hr3 : tinctureref5_reg.f a0_3 = some true) (hf : tinctureref5_form.f a0_0 = some (o, f, p)) (h0 : 3 ≤ a0_0) (h1 : a0_0 ≤ 3) (zb : (a0_2 == 0) = true) (zc : (a0_3 == 0) = true) (hl : tinctureref5_low.f a0_4 (-1048576) 1048574 2 = some lo) :
    Calls Tryd.prog 19 #[.agg #[.int .i64 a0_0, .int .i64 a0_1, .int .i64 a0_2, .int .i64 a0_3, .int .i32 a0_4]] w (Pair lo (fun x => x = (Go.bits .or .u32 (Go.bits .or .u32 (Go.bits .or .u32 (Go.bits .or .u32 (Go.bits .or .u32 o (a0_1 % 4294967296 * 128 % 4294967296)) (Go.bits .and .u32 ((a0_4 % 4294967296) / 1048576) 1 * 2147483648 % 4294967296)) (Go.bits .and .u32 ((a0_4 % 4294967296) / 2) 1023 * 2097152 % 4294967296)) (Go.bits .and .u32 ((a0_4 % 4294967296) / 2048) 1 * 1048576 % 4294967296)) (Go.bits .and .u32 ((a0_4 % 4294967296) / 4096) 255 * 4096 % 4294967296))) w) := by
  have hu25 := Tryd.underlying25
  have HB := Aside0.mk (Below.refl w.heap.size w)
  have R1 := Aside0.mk hr1
  have R2 := Aside0.mk hr2
  have R3 := Aside0.mk hr3
  have FF := Aside0.mk hf
  clear hr1 hr2 hr3 hf
  have d0 : decide (a0_0 < 1) = false := decide_eq_false (by omega)
  have d1 : decide (49 < a0_0) = false := decide_eq_false (by omega)
  have e0 : decide (a0_0 ≤ 2) = false := decide_eq_false (by omega)
  have e1 : (a0_0 == 3) = true := beq_iff_eq.mpr (by omega)
  have e2 : (a0_0 == 4) = false := beq_eq_false_iff_ne.mpr (by omega)
  have e3 : decide (11 ≤ a0_0) = false := decide_eq_false (by omega)
  have e4 : decide (a0_0 ≤ 15) = true := decide_eq_true (by omega)
  have e5 : decide (19 ≤ a0_0) = false := decide_eq_false (by omega)
  have e6 : decide (a0_0 ≤ 24) = true := decide_eq_true (by omega)
  have e7 : decide (a0_0 ≤ 10) = true := decide_eq_true (by omega)
  have e8 : decide (a0_0 ≤ 18) = true := decide_eq_true (by omega)
  have e9 : decide (a0_0 ≤ 27) = true := decide_eq_true (by omega)
  have e10 : decide (a0_0 ≤ 45) = true := decide_eq_true (by omega)
  clear h0 h1
  have LL := Aside0.mk hl
  clear hl
  go_enter Tryd.func19, Tryd.ntmps19
  go_wp2_with (first | ((with_reducible refine gate_dst (N := 1) rfl ?_); refine box_event ?hg (N := 1) ?hd (cs := #[.int .i64 a0_0, .int .i64 a0_1, .int .i64 a0_2, .int .i64 a0_3, .int .i32 a0_4]) (t := 25) ?hr ?_; (case hd => rfl); (case hg => rfl); (case hr => first | (go_simp; done) | (go_simp; rfl)); intro gb212 hg w3 hbox hb; have n0_ := Aside0.mk (below_step (by repeat (first | (with_reducible first | exact HB.out | apply below_alloc | apply pw_below_drewN | apply below_drew1) | exact HB.out)) hb); have n1_ := Aside0.mk (hbox); have n2_ := Aside0.mk ((by rw [hg]; exact (below_size (by repeat (first | (with_reducible first | exact HB.out | apply below_alloc | apply pw_below_drewN | apply below_drew1) | exact HB.out))) : w.heap.size ≤ gb212)); have n3_ := Aside0.mk ((by rw [hg]; exact (below_size (by repeat (first | (with_reducible first | exact HB.out | apply below_alloc | apply pw_below_drewN | apply below_drew1) | exact HB.out))) : w.heap.size ≤ gb212)); clear HB; have HB := n0_; have BK212 := n1_; have GW212 := n2_; have GE212 := n3_; clear n0_ n1_ n2_ n3_; clear hb hbox hg; have hczw3_0 : w3.cell? ⟨gb212, 0, none⟩ = some (.int .i64 a0_0) := (blk_cell BK212.out 0).trans rfl; have hfzw3_0 := blk_frozen BK212.out 0; have hczw3_1 : w3.cell? ⟨gb212, 1, none⟩ = some (.int .i64 a0_1) := (blk_cell BK212.out 1).trans rfl; have hfzw3_1 := blk_frozen BK212.out 1; have hczw3_2 : w3.cell? ⟨gb212, 2, none⟩ = some (.int .i64 a0_2) := (blk_cell BK212.out 2).trans rfl; have hfzw3_2 := blk_frozen BK212.out 2; have hczw3_3 : w3.cell? ⟨gb212, 3, none⟩ = some (.int .i64 a0_3) := (blk_cell BK212.out 3).trans rfl; have hfzw3_3 := blk_frozen BK212.out 3; have hczw3_4 : w3.cell? ⟨gb212, 4, none⟩ = some (.int .i32 a0_4) := (blk_cell BK212.out 4).trans rfl; have hfzw3_4 := blk_frozen BK212.out 4) | (go_at_call 37; (with_reducible refine (tinctureref5_reg.calls a0_1 true _ R1.out).mono ?_); rintro e w' ⟨rfl, ⟨nd, rfl⟩⟩) | (go_at_call 37; (with_reducible refine (tinctureref5_reg.calls a0_2 true _ R2.out).mono ?_); rintro e w' ⟨rfl, ⟨nd, rfl⟩⟩) | (go_at_call 37; (with_reducible refine (tinctureref5_reg.calls a0_3 true _ R3.out).mono ?_); rintro e w' ⟨rfl, ⟨nd, rfl⟩⟩) | (go_at_call 29; (with_reducible refine (tinctureref5_form.calls a0_0 o f p _ FF.out).mono ?_); rintro e w22 ⟨rfl, hb⟩; have n0_ := Aside0.mk (blk_below (g := gb212) (o := .cells #[.int .i64 a0_0, .int .i64 a0_1, .int .i64 a0_2, .int .i64 a0_3, .int .i32 a0_4] 25 (0, 0)) (by (with_reducible repeat (first | refine blk_drewN ?_ _ | refine blk_drew ?_ | refine blk_alloc ?_ _)); exact BK212.out) hb); have n1_ := Aside0.mk (below_step (by repeat (first | (with_reducible first | exact HB.out | apply below_alloc | apply pw_below_drewN | apply below_drew1 | refine below_set ?_ GE212.out) | exact HB.out)) hb); clear BK212; clear HB; have BK212 := n0_; have HB := n1_; clear n0_ n1_; (try clear hb); have hczw22_0 : w22.cell? ⟨gb212, 0, none⟩ = some (.int .i64 a0_0) := (blk_cell BK212.out 0).trans rfl; have hfzw22_0 := blk_frozen BK212.out 0; have hczw22_1 : w22.cell? ⟨gb212, 1, none⟩ = some (.int .i64 a0_1) := (blk_cell BK212.out 1).trans rfl; have hfzw22_1 := blk_frozen BK212.out 1; have hczw22_2 : w22.cell? ⟨gb212, 2, none⟩ = some (.int .i64 a0_2) := (blk_cell BK212.out 2).trans rfl; have hfzw22_2 := blk_frozen BK212.out 2; have hczw22_3 : w22.cell? ⟨gb212, 3, none⟩ = some (.int .i64 a0_3) := (blk_cell BK212.out 3).trans rfl; have hfzw22_3 := blk_frozen BK212.out 3; have hczw22_4 : w22.cell? ⟨gb212, 4, none⟩ = some (.int .i32 a0_4) := (blk_cell BK212.out 4).trans rfl; have hfzw22_4 := blk_frozen BK212.out 4) | (go_at_call 38; (with_reducible refine (tinctureref5_low.calls a0_4 _ _ _ lo _ LL.out).mono ?_); rintro e w' ⟨rfl, ⟨nd, rfl⟩⟩))
  go_quiet (fail)
  go_wp2_with (first | (go_at_call 38; (with_reducible refine (tinctureref5_low.calls a0_4 _ _ _ lo _ LL.out).mono ?_); rintro e w' ⟨rfl, ⟨nd, rfl⟩⟩))
  go_ret2
  exact ⟨_, rfl, rfl, (by repeat (first | (with_reducible first | exact HB.out | apply below_alloc | apply pw_below_drewN | apply below_drew1 | refine below_set ?_ GE212.out) | exact HB.out))⟩
set_option maxHeartbeats 8000000 in
set_option maxRecDepth 100000 in
theorem enc_I40 (a0_0 a0_1 a0_2 a0_3 a0_4 : Int) (w : World) (o f p : Int) (hr1 : tinctureref5_reg.f a0_1 = some true) (hr2 : tinctureref5_reg.f a0_2 = some true) (hr3 : tinctureref5_reg.f a0_3 = some true) (hf : tinctureref5_form.f a0_0 = some (o, f, p)) (h0 : 4 ≤ a0_0) (h1 : a0_0 ≤ 4) (zc : (a0_3 == 0) = false) :
    Calls Tryd.prog 19 #[.agg #[.int .i64 a0_0, .int .i64 a0_1, .int .i64 a0_2, .int .i64 a0_3, .int .i32 a0_4]] w (Pair false (fun _ => True) w) := by
  have hu25 := Tryd.underlying25
  have HB := Aside0.mk (Below.refl w.heap.size w)
  have R1 := Aside0.mk hr1
  have R2 := Aside0.mk hr2
  have R3 := Aside0.mk hr3
  have FF := Aside0.mk hf
  clear hr1 hr2 hr3 hf
  have d0 : decide (a0_0 < 1) = false := decide_eq_false (by omega)
  have d1 : decide (49 < a0_0) = false := decide_eq_false (by omega)
  have e0 : decide (a0_0 ≤ 2) = false := decide_eq_false (by omega)
  have e1 : (a0_0 == 3) = false := beq_eq_false_iff_ne.mpr (by omega)
  have e2 : (a0_0 == 4) = true := beq_iff_eq.mpr (by omega)
  have e3 : decide (11 ≤ a0_0) = false := decide_eq_false (by omega)
  have e4 : decide (a0_0 ≤ 15) = true := decide_eq_true (by omega)
  have e5 : decide (19 ≤ a0_0) = false := decide_eq_false (by omega)
  have e6 : decide (a0_0 ≤ 24) = true := decide_eq_true (by omega)
  have e7 : decide (a0_0 ≤ 10) = true := decide_eq_true (by omega)
  have e8 : decide (a0_0 ≤ 18) = true := decide_eq_true (by omega)
  have e9 : decide (a0_0 ≤ 27) = true := decide_eq_true (by omega)
  have e10 : decide (a0_0 ≤ 45) = true := decide_eq_true (by omega)
  clear h0 h1
  go_enter Tryd.func19, Tryd.ntmps19
  go_wp2_with (first | ((with_reducible refine gate_dst (N := 1) rfl ?_); refine box_event ?hg (N := 1) ?hd (cs := #[.int .i64 a0_0, .int .i64 a0_1, .int .i64 a0_2, .int .i64 a0_3, .int .i32 a0_4]) (t := 25) ?hr ?_; (case hd => rfl); (case hg => rfl); (case hr => first | (go_simp; done) | (go_simp; rfl)); intro gb212 hg w3 hbox hb; have n0_ := Aside0.mk (below_step (by repeat (first | (with_reducible first | exact HB.out | apply below_alloc | apply pw_below_drewN | apply below_drew1) | exact HB.out)) hb); have n1_ := Aside0.mk (hbox); have n2_ := Aside0.mk ((by rw [hg]; exact (below_size (by repeat (first | (with_reducible first | exact HB.out | apply below_alloc | apply pw_below_drewN | apply below_drew1) | exact HB.out))) : w.heap.size ≤ gb212)); have n3_ := Aside0.mk ((by rw [hg]; exact (below_size (by repeat (first | (with_reducible first | exact HB.out | apply below_alloc | apply pw_below_drewN | apply below_drew1) | exact HB.out))) : w.heap.size ≤ gb212)); clear HB; have HB := n0_; have BK212 := n1_; have GW212 := n2_; have GE212 := n3_; clear n0_ n1_ n2_ n3_; clear hb hbox hg; have hczw3_0 : w3.cell? ⟨gb212, 0, none⟩ = some (.int .i64 a0_0) := (blk_cell BK212.out 0).trans rfl; have hfzw3_0 := blk_frozen BK212.out 0; have hczw3_1 : w3.cell? ⟨gb212, 1, none⟩ = some (.int .i64 a0_1) := (blk_cell BK212.out 1).trans rfl; have hfzw3_1 := blk_frozen BK212.out 1; have hczw3_2 : w3.cell? ⟨gb212, 2, none⟩ = some (.int .i64 a0_2) := (blk_cell BK212.out 2).trans rfl; have hfzw3_2 := blk_frozen BK212.out 2; have hczw3_3 : w3.cell? ⟨gb212, 3, none⟩ = some (.int .i64 a0_3) := (blk_cell BK212.out 3).trans rfl; have hfzw3_3 := blk_frozen BK212.out 3; have hczw3_4 : w3.cell? ⟨gb212, 4, none⟩ = some (.int .i32 a0_4) := (blk_cell BK212.out 4).trans rfl; have hfzw3_4 := blk_frozen BK212.out 4) | (go_at_call 37; (with_reducible refine (tinctureref5_reg.calls a0_1 true _ R1.out).mono ?_); rintro e w' ⟨rfl, ⟨nd, rfl⟩⟩) | (go_at_call 37; (with_reducible refine (tinctureref5_reg.calls a0_2 true _ R2.out).mono ?_); rintro e w' ⟨rfl, ⟨nd, rfl⟩⟩) | (go_at_call 37; (with_reducible refine (tinctureref5_reg.calls a0_3 true _ R3.out).mono ?_); rintro e w' ⟨rfl, ⟨nd, rfl⟩⟩) | (go_at_call 29; (with_reducible refine (tinctureref5_form.calls a0_0 o f p _ FF.out).mono ?_); rintro e w22 ⟨rfl, hb⟩; have n0_ := Aside0.mk (blk_below (g := gb212) (o := .cells #[.int .i64 a0_0, .int .i64 a0_1, .int .i64 a0_2, .int .i64 a0_3, .int .i32 a0_4] 25 (0, 0)) (by (with_reducible repeat (first | refine blk_drewN ?_ _ | refine blk_drew ?_ | refine blk_alloc ?_ _)); exact BK212.out) hb); have n1_ := Aside0.mk (below_step (by repeat (first | (with_reducible first | exact HB.out | apply below_alloc | apply pw_below_drewN | apply below_drew1 | refine below_set ?_ GE212.out) | exact HB.out)) hb); clear BK212; clear HB; have BK212 := n0_; have HB := n1_; clear n0_ n1_; (try clear hb); have hczw22_0 : w22.cell? ⟨gb212, 0, none⟩ = some (.int .i64 a0_0) := (blk_cell BK212.out 0).trans rfl; have hfzw22_0 := blk_frozen BK212.out 0; have hczw22_1 : w22.cell? ⟨gb212, 1, none⟩ = some (.int .i64 a0_1) := (blk_cell BK212.out 1).trans rfl; have hfzw22_1 := blk_frozen BK212.out 1; have hczw22_2 : w22.cell? ⟨gb212, 2, none⟩ = some (.int .i64 a0_2) := (blk_cell BK212.out 2).trans rfl; have hfzw22_2 := blk_frozen BK212.out 2; have hczw22_3 : w22.cell? ⟨gb212, 3, none⟩ = some (.int .i64 a0_3) := (blk_cell BK212.out 3).trans rfl; have hfzw22_3 := blk_frozen BK212.out 3; have hczw22_4 : w22.cell? ⟨gb212, 4, none⟩ = some (.int .i32 a0_4) := (blk_cell BK212.out 4).trans rfl; have hfzw22_4 := blk_frozen BK212.out 4))
  go_quiet (fail)
  go_wp2
  go_ret2
  exact ⟨_, rfl, trivial, (by repeat (first | (with_reducible first | exact HB.out | apply below_alloc | apply pw_below_drewN | apply below_drew1 | refine below_set ?_ GE212.out) | exact HB.out))⟩
set_option maxHeartbeats 8000000 in
set_option maxRecDepth 100000 in
theorem enc_I41 (a0_0 a0_1 a0_2 a0_3 a0_4 : Int) (w : World) (o f p : Int) (lo : Bool) (hr1 : tinctureref5_reg.f a0_1 = some true) (hr2 : tinctureref5_reg.f a0_2 = some true) (hr3 : tinctureref5_reg.f a0_3 = some true) (hf : tinctureref5_form.f a0_0 = some (o, f, p)) (h0 : 4 ≤ a0_0) (h1 : a0_0 ≤ 4) (zc : (a0_3 == 0) = true) (hl : tinctureref5_low.f a0_4 (-2048) 2047 1 = some lo) :
    Calls Tryd.prog 19 #[.agg #[.int .i64 a0_0, .int .i64 a0_1, .int .i64 a0_2, .int .i64 a0_3, .int .i32 a0_4]] w (Pair lo (fun x => x = (Go.bits .or .u32 (Go.bits .or .u32 (Go.bits .or .u32 (Go.bits .or .u32 o (f * 4096 % 4294967296)) (a0_1 % 4294967296 * 128 % 4294967296)) (a0_2 % 4294967296 * 32768 % 4294967296)) (Go.bits .and .u32 (a0_4 % 4294967296) 4095 * 1048576 % 4294967296))) w) := by
  have hu25 := Tryd.underlying25
  have HB := Aside0.mk (Below.refl w.heap.size w)
  have R1 := Aside0.mk hr1
  have R2 := Aside0.mk hr2
  have R3 := Aside0.mk hr3
  have FF := Aside0.mk hf
  clear hr1 hr2 hr3 hf
  have d0 : decide (a0_0 < 1) = false := decide_eq_false (by omega)
  have d1 : decide (49 < a0_0) = false := decide_eq_false (by omega)
  have e0 : decide (a0_0 ≤ 2) = false := decide_eq_false (by omega)
  have e1 : (a0_0 == 3) = false := beq_eq_false_iff_ne.mpr (by omega)
  have e2 : (a0_0 == 4) = true := beq_iff_eq.mpr (by omega)
  have e3 : decide (11 ≤ a0_0) = false := decide_eq_false (by omega)
  have e4 : decide (a0_0 ≤ 15) = true := decide_eq_true (by omega)
  have e5 : decide (19 ≤ a0_0) = false := decide_eq_false (by omega)
  have e6 : decide (a0_0 ≤ 24) = true := decide_eq_true (by omega)
  have e7 : decide (a0_0 ≤ 10) = true := decide_eq_true (by omega)
  have e8 : decide (a0_0 ≤ 18) = true := decide_eq_true (by omega)
  have e9 : decide (a0_0 ≤ 27) = true := decide_eq_true (by omega)
  have e10 : decide (a0_0 ≤ 45) = true := decide_eq_true (by omega)
  clear h0 h1
  have LL := Aside0.mk hl
  clear hl
  go_enter Tryd.func19, Tryd.ntmps19
  go_wp2_with (first | ((with_reducible refine gate_dst (N := 1) rfl ?_); refine box_event ?hg (N := 1) ?hd (cs := #[.int .i64 a0_0, .int .i64 a0_1, .int .i64 a0_2, .int .i64 a0_3, .int .i32 a0_4]) (t := 25) ?hr ?_; (case hd => rfl); (case hg => rfl); (case hr => first | (go_simp; done) | (go_simp; rfl)); intro gb212 hg w3 hbox hb; have n0_ := Aside0.mk (below_step (by repeat (first | (with_reducible first | exact HB.out | apply below_alloc | apply pw_below_drewN | apply below_drew1) | exact HB.out)) hb); have n1_ := Aside0.mk (hbox); have n2_ := Aside0.mk ((by rw [hg]; exact (below_size (by repeat (first | (with_reducible first | exact HB.out | apply below_alloc | apply pw_below_drewN | apply below_drew1) | exact HB.out))) : w.heap.size ≤ gb212)); have n3_ := Aside0.mk ((by rw [hg]; exact (below_size (by repeat (first | (with_reducible first | exact HB.out | apply below_alloc | apply pw_below_drewN | apply below_drew1) | exact HB.out))) : w.heap.size ≤ gb212)); clear HB; have HB := n0_; have BK212 := n1_; have GW212 := n2_; have GE212 := n3_; clear n0_ n1_ n2_ n3_; clear hb hbox hg; have hczw3_0 : w3.cell? ⟨gb212, 0, none⟩ = some (.int .i64 a0_0) := (blk_cell BK212.out 0).trans rfl; have hfzw3_0 := blk_frozen BK212.out 0; have hczw3_1 : w3.cell? ⟨gb212, 1, none⟩ = some (.int .i64 a0_1) := (blk_cell BK212.out 1).trans rfl; have hfzw3_1 := blk_frozen BK212.out 1; have hczw3_2 : w3.cell? ⟨gb212, 2, none⟩ = some (.int .i64 a0_2) := (blk_cell BK212.out 2).trans rfl; have hfzw3_2 := blk_frozen BK212.out 2; have hczw3_3 : w3.cell? ⟨gb212, 3, none⟩ = some (.int .i64 a0_3) := (blk_cell BK212.out 3).trans rfl; have hfzw3_3 := blk_frozen BK212.out 3; have hczw3_4 : w3.cell? ⟨gb212, 4, none⟩ = some (.int .i32 a0_4) := (blk_cell BK212.out 4).trans rfl; have hfzw3_4 := blk_frozen BK212.out 4) | (go_at_call 37; (with_reducible refine (tinctureref5_reg.calls a0_1 true _ R1.out).mono ?_); rintro e w' ⟨rfl, ⟨nd, rfl⟩⟩) | (go_at_call 37; (with_reducible refine (tinctureref5_reg.calls a0_2 true _ R2.out).mono ?_); rintro e w' ⟨rfl, ⟨nd, rfl⟩⟩) | (go_at_call 37; (with_reducible refine (tinctureref5_reg.calls a0_3 true _ R3.out).mono ?_); rintro e w' ⟨rfl, ⟨nd, rfl⟩⟩) | (go_at_call 29; (with_reducible refine (tinctureref5_form.calls a0_0 o f p _ FF.out).mono ?_); rintro e w22 ⟨rfl, hb⟩; have n0_ := Aside0.mk (blk_below (g := gb212) (o := .cells #[.int .i64 a0_0, .int .i64 a0_1, .int .i64 a0_2, .int .i64 a0_3, .int .i32 a0_4] 25 (0, 0)) (by (with_reducible repeat (first | refine blk_drewN ?_ _ | refine blk_drew ?_ | refine blk_alloc ?_ _)); exact BK212.out) hb); have n1_ := Aside0.mk (below_step (by repeat (first | (with_reducible first | exact HB.out | apply below_alloc | apply pw_below_drewN | apply below_drew1 | refine below_set ?_ GE212.out) | exact HB.out)) hb); clear BK212; clear HB; have BK212 := n0_; have HB := n1_; clear n0_ n1_; (try clear hb); have hczw22_0 : w22.cell? ⟨gb212, 0, none⟩ = some (.int .i64 a0_0) := (blk_cell BK212.out 0).trans rfl; have hfzw22_0 := blk_frozen BK212.out 0; have hczw22_1 : w22.cell? ⟨gb212, 1, none⟩ = some (.int .i64 a0_1) := (blk_cell BK212.out 1).trans rfl; have hfzw22_1 := blk_frozen BK212.out 1; have hczw22_2 : w22.cell? ⟨gb212, 2, none⟩ = some (.int .i64 a0_2) := (blk_cell BK212.out 2).trans rfl; have hfzw22_2 := blk_frozen BK212.out 2; have hczw22_3 : w22.cell? ⟨gb212, 3, none⟩ = some (.int .i64 a0_3) := (blk_cell BK212.out 3).trans rfl; have hfzw22_3 := blk_frozen BK212.out 3; have hczw22_4 : w22.cell? ⟨gb212, 4, none⟩ = some (.int .i32 a0_4) := (blk_cell BK212.out 4).trans rfl; have hfzw22_4 := blk_frozen BK212.out 4) | (go_at_call 38; (with_reducible refine (tinctureref5_low.calls a0_4 _ _ _ lo _ LL.out).mono ?_); rintro e w' ⟨rfl, ⟨nd, rfl⟩⟩))
  go_quiet (fail)
  go_wp2_with (first | (go_at_call 38; (with_reducible refine (tinctureref5_low.calls a0_4 _ _ _ lo _ LL.out).mono ?_); rintro e w' ⟨rfl, ⟨nd, rfl⟩⟩))
  go_ret2
  exact ⟨_, rfl, rfl, (by repeat (first | (with_reducible first | exact HB.out | apply below_alloc | apply pw_below_drewN | apply below_drew1 | refine below_set ?_ GE212.out) | exact HB.out))⟩
set_option maxHeartbeats 8000000 in
set_option maxRecDepth 100000 in
theorem enc_I110 (a0_0 a0_1 a0_2 a0_3 a0_4 : Int) (w : World) (o f p : Int) (hr1 : tinctureref5_reg.f a0_1 = some true) (hr2 : tinctureref5_reg.f a0_2 = some true) (hr3 : tinctureref5_reg.f a0_3 = some true) (hf : tinctureref5_form.f a0_0 = some (o, f, p)) (h0 : 11 ≤ a0_0) (h1 : a0_0 ≤ 15) (zc : (a0_3 == 0) = false) :
    Calls Tryd.prog 19 #[.agg #[.int .i64 a0_0, .int .i64 a0_1, .int .i64 a0_2, .int .i64 a0_3, .int .i32 a0_4]] w (Pair false (fun _ => True) w) := by
  have hu25 := Tryd.underlying25
  have HB := Aside0.mk (Below.refl w.heap.size w)
  have R1 := Aside0.mk hr1
  have R2 := Aside0.mk hr2
  have R3 := Aside0.mk hr3
  have FF := Aside0.mk hf
  clear hr1 hr2 hr3 hf
  have d0 : decide (a0_0 < 1) = false := decide_eq_false (by omega)
  have d1 : decide (49 < a0_0) = false := decide_eq_false (by omega)
  have e0 : decide (a0_0 ≤ 2) = false := decide_eq_false (by omega)
  have e1 : (a0_0 == 3) = false := beq_eq_false_iff_ne.mpr (by omega)
  have e2 : (a0_0 == 4) = false := beq_eq_false_iff_ne.mpr (by omega)
  have e3 : decide (11 ≤ a0_0) = true := decide_eq_true (by omega)
  have e4 : decide (a0_0 ≤ 15) = true := decide_eq_true (by omega)
  have e5 : decide (19 ≤ a0_0) = false := decide_eq_false (by omega)
  have e6 : decide (a0_0 ≤ 24) = true := decide_eq_true (by omega)
  have e7 : decide (a0_0 ≤ 10) = false := decide_eq_false (by omega)
  have e8 : decide (a0_0 ≤ 18) = true := decide_eq_true (by omega)
  have e9 : decide (a0_0 ≤ 27) = true := decide_eq_true (by omega)
  have e10 : decide (a0_0 ≤ 45) = true := decide_eq_true (by omega)
  clear h0 h1
  go_enter Tryd.func19, Tryd.ntmps19
  go_wp2_with (first | ((with_reducible refine gate_dst (N := 1) rfl ?_); refine box_event ?hg (N := 1) ?hd (cs := #[.int .i64 a0_0, .int .i64 a0_1, .int .i64 a0_2, .int .i64 a0_3, .int .i32 a0_4]) (t := 25) ?hr ?_; (case hd => rfl); (case hg => rfl); (case hr => first | (go_simp; done) | (go_simp; rfl)); intro gb212 hg w3 hbox hb; have n0_ := Aside0.mk (below_step (by repeat (first | (with_reducible first | exact HB.out | apply below_alloc | apply pw_below_drewN | apply below_drew1) | exact HB.out)) hb); have n1_ := Aside0.mk (hbox); have n2_ := Aside0.mk ((by rw [hg]; exact (below_size (by repeat (first | (with_reducible first | exact HB.out | apply below_alloc | apply pw_below_drewN | apply below_drew1) | exact HB.out))) : w.heap.size ≤ gb212)); have n3_ := Aside0.mk ((by rw [hg]; exact (below_size (by repeat (first | (with_reducible first | exact HB.out | apply below_alloc | apply pw_below_drewN | apply below_drew1) | exact HB.out))) : w.heap.size ≤ gb212)); clear HB; have HB := n0_; have BK212 := n1_; have GW212 := n2_; have GE212 := n3_; clear n0_ n1_ n2_ n3_; clear hb hbox hg; have hczw3_0 : w3.cell? ⟨gb212, 0, none⟩ = some (.int .i64 a0_0) := (blk_cell BK212.out 0).trans rfl; have hfzw3_0 := blk_frozen BK212.out 0; have hczw3_1 : w3.cell? ⟨gb212, 1, none⟩ = some (.int .i64 a0_1) := (blk_cell BK212.out 1).trans rfl; have hfzw3_1 := blk_frozen BK212.out 1; have hczw3_2 : w3.cell? ⟨gb212, 2, none⟩ = some (.int .i64 a0_2) := (blk_cell BK212.out 2).trans rfl; have hfzw3_2 := blk_frozen BK212.out 2; have hczw3_3 : w3.cell? ⟨gb212, 3, none⟩ = some (.int .i64 a0_3) := (blk_cell BK212.out 3).trans rfl; have hfzw3_3 := blk_frozen BK212.out 3; have hczw3_4 : w3.cell? ⟨gb212, 4, none⟩ = some (.int .i32 a0_4) := (blk_cell BK212.out 4).trans rfl; have hfzw3_4 := blk_frozen BK212.out 4) | (go_at_call 37; (with_reducible refine (tinctureref5_reg.calls a0_1 true _ R1.out).mono ?_); rintro e w' ⟨rfl, ⟨nd, rfl⟩⟩) | (go_at_call 37; (with_reducible refine (tinctureref5_reg.calls a0_2 true _ R2.out).mono ?_); rintro e w' ⟨rfl, ⟨nd, rfl⟩⟩) | (go_at_call 37; (with_reducible refine (tinctureref5_reg.calls a0_3 true _ R3.out).mono ?_); rintro e w' ⟨rfl, ⟨nd, rfl⟩⟩) | (go_at_call 29; (with_reducible refine (tinctureref5_form.calls a0_0 o f p _ FF.out).mono ?_); rintro e w22 ⟨rfl, hb⟩; have n0_ := Aside0.mk (blk_below (g := gb212) (o := .cells #[.int .i64 a0_0, .int .i64 a0_1, .int .i64 a0_2, .int .i64 a0_3, .int .i32 a0_4] 25 (0, 0)) (by (with_reducible repeat (first | refine blk_drewN ?_ _ | refine blk_drew ?_ | refine blk_alloc ?_ _)); exact BK212.out) hb); have n1_ := Aside0.mk (below_step (by repeat (first | (with_reducible first | exact HB.out | apply below_alloc | apply pw_below_drewN | apply below_drew1 | refine below_set ?_ GE212.out) | exact HB.out)) hb); clear BK212; clear HB; have BK212 := n0_; have HB := n1_; clear n0_ n1_; (try clear hb); have hczw22_0 : w22.cell? ⟨gb212, 0, none⟩ = some (.int .i64 a0_0) := (blk_cell BK212.out 0).trans rfl; have hfzw22_0 := blk_frozen BK212.out 0; have hczw22_1 : w22.cell? ⟨gb212, 1, none⟩ = some (.int .i64 a0_1) := (blk_cell BK212.out 1).trans rfl; have hfzw22_1 := blk_frozen BK212.out 1; have hczw22_2 : w22.cell? ⟨gb212, 2, none⟩ = some (.int .i64 a0_2) := (blk_cell BK212.out 2).trans rfl; have hfzw22_2 := blk_frozen BK212.out 2; have hczw22_3 : w22.cell? ⟨gb212, 3, none⟩ = some (.int .i64 a0_3) := (blk_cell BK212.out 3).trans rfl; have hfzw22_3 := blk_frozen BK212.out 3; have hczw22_4 : w22.cell? ⟨gb212, 4, none⟩ = some (.int .i32 a0_4) := (blk_cell BK212.out 4).trans rfl; have hfzw22_4 := blk_frozen BK212.out 4))
  go_quiet (fail)
  go_wp2
  go_ret2
  exact ⟨_, rfl, trivial, (by repeat (first | (with_reducible first | exact HB.out | apply below_alloc | apply pw_below_drewN | apply below_drew1 | refine below_set ?_ GE212.out) | exact HB.out))⟩
set_option maxHeartbeats 8000000 in
set_option maxRecDepth 100000 in
theorem enc_I111 (a0_0 a0_1 a0_2 a0_3 a0_4 : Int) (w : World) (o f p : Int) (lo : Bool) (hr1 : tinctureref5_reg.f a0_1 = some true) (hr2 : tinctureref5_reg.f a0_2 = some true) (hr3 : tinctureref5_reg.f a0_3 = some true) (hf : tinctureref5_form.f a0_0 = some (o, f, p)) (h0 : 11 ≤ a0_0) (h1 : a0_0 ≤ 15) (zc : (a0_3 == 0) = true) (hl : tinctureref5_low.f a0_4 (-2048) 2047 1 = some lo) :
    Calls Tryd.prog 19 #[.agg #[.int .i64 a0_0, .int .i64 a0_1, .int .i64 a0_2, .int .i64 a0_3, .int .i32 a0_4]] w (Pair lo (fun x => x = (Go.bits .or .u32 (Go.bits .or .u32 (Go.bits .or .u32 (Go.bits .or .u32 o (f * 4096 % 4294967296)) (a0_1 % 4294967296 * 128 % 4294967296)) (a0_2 % 4294967296 * 32768 % 4294967296)) (Go.bits .and .u32 (a0_4 % 4294967296) 4095 * 1048576 % 4294967296))) w) := by
  have hu25 := Tryd.underlying25
  have HB := Aside0.mk (Below.refl w.heap.size w)
  have R1 := Aside0.mk hr1
  have R2 := Aside0.mk hr2
  have R3 := Aside0.mk hr3
  have FF := Aside0.mk hf
  clear hr1 hr2 hr3 hf
  have d0 : decide (a0_0 < 1) = false := decide_eq_false (by omega)
  have d1 : decide (49 < a0_0) = false := decide_eq_false (by omega)
  have e0 : decide (a0_0 ≤ 2) = false := decide_eq_false (by omega)
  have e1 : (a0_0 == 3) = false := beq_eq_false_iff_ne.mpr (by omega)
  have e2 : (a0_0 == 4) = false := beq_eq_false_iff_ne.mpr (by omega)
  have e3 : decide (11 ≤ a0_0) = true := decide_eq_true (by omega)
  have e4 : decide (a0_0 ≤ 15) = true := decide_eq_true (by omega)
  have e5 : decide (19 ≤ a0_0) = false := decide_eq_false (by omega)
  have e6 : decide (a0_0 ≤ 24) = true := decide_eq_true (by omega)
  have e7 : decide (a0_0 ≤ 10) = false := decide_eq_false (by omega)
  have e8 : decide (a0_0 ≤ 18) = true := decide_eq_true (by omega)
  have e9 : decide (a0_0 ≤ 27) = true := decide_eq_true (by omega)
  have e10 : decide (a0_0 ≤ 45) = true := decide_eq_true (by omega)
  clear h0 h1
  have LL := Aside0.mk hl
  clear hl
  go_enter Tryd.func19, Tryd.ntmps19
  go_wp2_with (first | ((with_reducible refine gate_dst (N := 1) rfl ?_); refine box_event ?hg (N := 1) ?hd (cs := #[.int .i64 a0_0, .int .i64 a0_1, .int .i64 a0_2, .int .i64 a0_3, .int .i32 a0_4]) (t := 25) ?hr ?_; (case hd => rfl); (case hg => rfl); (case hr => first | (go_simp; done) | (go_simp; rfl)); intro gb212 hg w3 hbox hb; have n0_ := Aside0.mk (below_step (by repeat (first | (with_reducible first | exact HB.out | apply below_alloc | apply pw_below_drewN | apply below_drew1) | exact HB.out)) hb); have n1_ := Aside0.mk (hbox); have n2_ := Aside0.mk ((by rw [hg]; exact (below_size (by repeat (first | (with_reducible first | exact HB.out | apply below_alloc | apply pw_below_drewN | apply below_drew1) | exact HB.out))) : w.heap.size ≤ gb212)); have n3_ := Aside0.mk ((by rw [hg]; exact (below_size (by repeat (first | (with_reducible first | exact HB.out | apply below_alloc | apply pw_below_drewN | apply below_drew1) | exact HB.out))) : w.heap.size ≤ gb212)); clear HB; have HB := n0_; have BK212 := n1_; have GW212 := n2_; have GE212 := n3_; clear n0_ n1_ n2_ n3_; clear hb hbox hg; have hczw3_0 : w3.cell? ⟨gb212, 0, none⟩ = some (.int .i64 a0_0) := (blk_cell BK212.out 0).trans rfl; have hfzw3_0 := blk_frozen BK212.out 0; have hczw3_1 : w3.cell? ⟨gb212, 1, none⟩ = some (.int .i64 a0_1) := (blk_cell BK212.out 1).trans rfl; have hfzw3_1 := blk_frozen BK212.out 1; have hczw3_2 : w3.cell? ⟨gb212, 2, none⟩ = some (.int .i64 a0_2) := (blk_cell BK212.out 2).trans rfl; have hfzw3_2 := blk_frozen BK212.out 2; have hczw3_3 : w3.cell? ⟨gb212, 3, none⟩ = some (.int .i64 a0_3) := (blk_cell BK212.out 3).trans rfl; have hfzw3_3 := blk_frozen BK212.out 3; have hczw3_4 : w3.cell? ⟨gb212, 4, none⟩ = some (.int .i32 a0_4) := (blk_cell BK212.out 4).trans rfl; have hfzw3_4 := blk_frozen BK212.out 4) | (go_at_call 37; (with_reducible refine (tinctureref5_reg.calls a0_1 true _ R1.out).mono ?_); rintro e w' ⟨rfl, ⟨nd, rfl⟩⟩) | (go_at_call 37; (with_reducible refine (tinctureref5_reg.calls a0_2 true _ R2.out).mono ?_); rintro e w' ⟨rfl, ⟨nd, rfl⟩⟩) | (go_at_call 37; (with_reducible refine (tinctureref5_reg.calls a0_3 true _ R3.out).mono ?_); rintro e w' ⟨rfl, ⟨nd, rfl⟩⟩) | (go_at_call 29; (with_reducible refine (tinctureref5_form.calls a0_0 o f p _ FF.out).mono ?_); rintro e w22 ⟨rfl, hb⟩; have n0_ := Aside0.mk (blk_below (g := gb212) (o := .cells #[.int .i64 a0_0, .int .i64 a0_1, .int .i64 a0_2, .int .i64 a0_3, .int .i32 a0_4] 25 (0, 0)) (by (with_reducible repeat (first | refine blk_drewN ?_ _ | refine blk_drew ?_ | refine blk_alloc ?_ _)); exact BK212.out) hb); have n1_ := Aside0.mk (below_step (by repeat (first | (with_reducible first | exact HB.out | apply below_alloc | apply pw_below_drewN | apply below_drew1 | refine below_set ?_ GE212.out) | exact HB.out)) hb); clear BK212; clear HB; have BK212 := n0_; have HB := n1_; clear n0_ n1_; (try clear hb); have hczw22_0 : w22.cell? ⟨gb212, 0, none⟩ = some (.int .i64 a0_0) := (blk_cell BK212.out 0).trans rfl; have hfzw22_0 := blk_frozen BK212.out 0; have hczw22_1 : w22.cell? ⟨gb212, 1, none⟩ = some (.int .i64 a0_1) := (blk_cell BK212.out 1).trans rfl; have hfzw22_1 := blk_frozen BK212.out 1; have hczw22_2 : w22.cell? ⟨gb212, 2, none⟩ = some (.int .i64 a0_2) := (blk_cell BK212.out 2).trans rfl; have hfzw22_2 := blk_frozen BK212.out 2; have hczw22_3 : w22.cell? ⟨gb212, 3, none⟩ = some (.int .i64 a0_3) := (blk_cell BK212.out 3).trans rfl; have hfzw22_3 := blk_frozen BK212.out 3; have hczw22_4 : w22.cell? ⟨gb212, 4, none⟩ = some (.int .i32 a0_4) := (blk_cell BK212.out 4).trans rfl; have hfzw22_4 := blk_frozen BK212.out 4) | (go_at_call 38; (with_reducible refine (tinctureref5_low.calls a0_4 _ _ _ lo _ LL.out).mono ?_); rintro e w' ⟨rfl, ⟨nd, rfl⟩⟩))
  go_quiet (fail)
  go_wp2_with (first | (go_at_call 38; (with_reducible refine (tinctureref5_low.calls a0_4 _ _ _ lo _ LL.out).mono ?_); rintro e w' ⟨rfl, ⟨nd, rfl⟩⟩))
  go_ret2
  exact ⟨_, rfl, rfl, (by repeat (first | (with_reducible first | exact HB.out | apply below_alloc | apply pw_below_drewN | apply below_drew1 | refine below_set ?_ GE212.out) | exact HB.out))⟩
set_option maxHeartbeats 8000000 in
set_option maxRecDepth 100000 in
theorem enc_I190 (a0_0 a0_1 a0_2 a0_3 a0_4 : Int) (w : World) (o f p : Int) (hr1 : tinctureref5_reg.f a0_1 = some true) (hr2 : tinctureref5_reg.f a0_2 = some true) (hr3 : tinctureref5_reg.f a0_3 = some true) (hf : tinctureref5_form.f a0_0 = some (o, f, p)) (h0 : 19 ≤ a0_0) (h1 : a0_0 ≤ 24) (zc : (a0_3 == 0) = false) :
    Calls Tryd.prog 19 #[.agg #[.int .i64 a0_0, .int .i64 a0_1, .int .i64 a0_2, .int .i64 a0_3, .int .i32 a0_4]] w (Pair false (fun _ => True) w) := by
  have hu25 := Tryd.underlying25
  have HB := Aside0.mk (Below.refl w.heap.size w)
  have R1 := Aside0.mk hr1
  have R2 := Aside0.mk hr2
  have R3 := Aside0.mk hr3
  have FF := Aside0.mk hf
  clear hr1 hr2 hr3 hf
  have d0 : decide (a0_0 < 1) = false := decide_eq_false (by omega)
  have d1 : decide (49 < a0_0) = false := decide_eq_false (by omega)
  have e0 : decide (a0_0 ≤ 2) = false := decide_eq_false (by omega)
  have e1 : (a0_0 == 3) = false := beq_eq_false_iff_ne.mpr (by omega)
  have e2 : (a0_0 == 4) = false := beq_eq_false_iff_ne.mpr (by omega)
  have e3 : decide (11 ≤ a0_0) = true := decide_eq_true (by omega)
  have e4 : decide (a0_0 ≤ 15) = false := decide_eq_false (by omega)
  have e5 : decide (19 ≤ a0_0) = true := decide_eq_true (by omega)
  have e6 : decide (a0_0 ≤ 24) = true := decide_eq_true (by omega)
  have e7 : decide (a0_0 ≤ 10) = false := decide_eq_false (by omega)
  have e8 : decide (a0_0 ≤ 18) = false := decide_eq_false (by omega)
  have e9 : decide (a0_0 ≤ 27) = true := decide_eq_true (by omega)
  have e10 : decide (a0_0 ≤ 45) = true := decide_eq_true (by omega)
  clear h0 h1
  go_enter Tryd.func19, Tryd.ntmps19
  go_wp2_with (first | ((with_reducible refine gate_dst (N := 1) rfl ?_); refine box_event ?hg (N := 1) ?hd (cs := #[.int .i64 a0_0, .int .i64 a0_1, .int .i64 a0_2, .int .i64 a0_3, .int .i32 a0_4]) (t := 25) ?hr ?_; (case hd => rfl); (case hg => rfl); (case hr => first | (go_simp; done) | (go_simp; rfl)); intro gb212 hg w3 hbox hb; have n0_ := Aside0.mk (below_step (by repeat (first | (with_reducible first | exact HB.out | apply below_alloc | apply pw_below_drewN | apply below_drew1) | exact HB.out)) hb); have n1_ := Aside0.mk (hbox); have n2_ := Aside0.mk ((by rw [hg]; exact (below_size (by repeat (first | (with_reducible first | exact HB.out | apply below_alloc | apply pw_below_drewN | apply below_drew1) | exact HB.out))) : w.heap.size ≤ gb212)); have n3_ := Aside0.mk ((by rw [hg]; exact (below_size (by repeat (first | (with_reducible first | exact HB.out | apply below_alloc | apply pw_below_drewN | apply below_drew1) | exact HB.out))) : w.heap.size ≤ gb212)); clear HB; have HB := n0_; have BK212 := n1_; have GW212 := n2_; have GE212 := n3_; clear n0_ n1_ n2_ n3_; clear hb hbox hg; have hczw3_0 : w3.cell? ⟨gb212, 0, none⟩ = some (.int .i64 a0_0) := (blk_cell BK212.out 0).trans rfl; have hfzw3_0 := blk_frozen BK212.out 0; have hczw3_1 : w3.cell? ⟨gb212, 1, none⟩ = some (.int .i64 a0_1) := (blk_cell BK212.out 1).trans rfl; have hfzw3_1 := blk_frozen BK212.out 1; have hczw3_2 : w3.cell? ⟨gb212, 2, none⟩ = some (.int .i64 a0_2) := (blk_cell BK212.out 2).trans rfl; have hfzw3_2 := blk_frozen BK212.out 2; have hczw3_3 : w3.cell? ⟨gb212, 3, none⟩ = some (.int .i64 a0_3) := (blk_cell BK212.out 3).trans rfl; have hfzw3_3 := blk_frozen BK212.out 3; have hczw3_4 : w3.cell? ⟨gb212, 4, none⟩ = some (.int .i32 a0_4) := (blk_cell BK212.out 4).trans rfl; have hfzw3_4 := blk_frozen BK212.out 4) | (go_at_call 37; (with_reducible refine (tinctureref5_reg.calls a0_1 true _ R1.out).mono ?_); rintro e w' ⟨rfl, ⟨nd, rfl⟩⟩) | (go_at_call 37; (with_reducible refine (tinctureref5_reg.calls a0_2 true _ R2.out).mono ?_); rintro e w' ⟨rfl, ⟨nd, rfl⟩⟩) | (go_at_call 37; (with_reducible refine (tinctureref5_reg.calls a0_3 true _ R3.out).mono ?_); rintro e w' ⟨rfl, ⟨nd, rfl⟩⟩) | (go_at_call 29; (with_reducible refine (tinctureref5_form.calls a0_0 o f p _ FF.out).mono ?_); rintro e w22 ⟨rfl, hb⟩; have n0_ := Aside0.mk (blk_below (g := gb212) (o := .cells #[.int .i64 a0_0, .int .i64 a0_1, .int .i64 a0_2, .int .i64 a0_3, .int .i32 a0_4] 25 (0, 0)) (by (with_reducible repeat (first | refine blk_drewN ?_ _ | refine blk_drew ?_ | refine blk_alloc ?_ _)); exact BK212.out) hb); have n1_ := Aside0.mk (below_step (by repeat (first | (with_reducible first | exact HB.out | apply below_alloc | apply pw_below_drewN | apply below_drew1 | refine below_set ?_ GE212.out) | exact HB.out)) hb); clear BK212; clear HB; have BK212 := n0_; have HB := n1_; clear n0_ n1_; (try clear hb); have hczw22_0 : w22.cell? ⟨gb212, 0, none⟩ = some (.int .i64 a0_0) := (blk_cell BK212.out 0).trans rfl; have hfzw22_0 := blk_frozen BK212.out 0; have hczw22_1 : w22.cell? ⟨gb212, 1, none⟩ = some (.int .i64 a0_1) := (blk_cell BK212.out 1).trans rfl; have hfzw22_1 := blk_frozen BK212.out 1; have hczw22_2 : w22.cell? ⟨gb212, 2, none⟩ = some (.int .i64 a0_2) := (blk_cell BK212.out 2).trans rfl; have hfzw22_2 := blk_frozen BK212.out 2; have hczw22_3 : w22.cell? ⟨gb212, 3, none⟩ = some (.int .i64 a0_3) := (blk_cell BK212.out 3).trans rfl; have hfzw22_3 := blk_frozen BK212.out 3; have hczw22_4 : w22.cell? ⟨gb212, 4, none⟩ = some (.int .i32 a0_4) := (blk_cell BK212.out 4).trans rfl; have hfzw22_4 := blk_frozen BK212.out 4))
  go_quiet (fail)
  go_wp2
  go_ret2
  exact ⟨_, rfl, trivial, (by repeat (first | (with_reducible first | exact HB.out | apply below_alloc | apply pw_below_drewN | apply below_drew1 | refine below_set ?_ GE212.out) | exact HB.out))⟩
set_option maxHeartbeats 8000000 in
set_option maxRecDepth 100000 in
theorem enc_I191 (a0_0 a0_1 a0_2 a0_3 a0_4 : Int) (w : World) (o f p : Int) (lo : Bool) (hr1 : tinctureref5_reg.f a0_1 = some true) (hr2 : tinctureref5_reg.f a0_2 = some true) (hr3 : tinctureref5_reg.f a0_3 = some true) (hf : tinctureref5_form.f a0_0 = some (o, f, p)) (h0 : 19 ≤ a0_0) (h1 : a0_0 ≤ 24) (zc : (a0_3 == 0) = true) (hl : tinctureref5_low.f a0_4 (-2048) 2047 1 = some lo) :
    Calls Tryd.prog 19 #[.agg #[.int .i64 a0_0, .int .i64 a0_1, .int .i64 a0_2, .int .i64 a0_3, .int .i32 a0_4]] w (Pair lo (fun x => x = (Go.bits .or .u32 (Go.bits .or .u32 (Go.bits .or .u32 (Go.bits .or .u32 o (f * 4096 % 4294967296)) (a0_1 % 4294967296 * 128 % 4294967296)) (a0_2 % 4294967296 * 32768 % 4294967296)) (Go.bits .and .u32 (a0_4 % 4294967296) 4095 * 1048576 % 4294967296))) w) := by
  have hu25 := Tryd.underlying25
  have HB := Aside0.mk (Below.refl w.heap.size w)
  have R1 := Aside0.mk hr1
  have R2 := Aside0.mk hr2
  have R3 := Aside0.mk hr3
  have FF := Aside0.mk hf
  clear hr1 hr2 hr3 hf
  have d0 : decide (a0_0 < 1) = false := decide_eq_false (by omega)
  have d1 : decide (49 < a0_0) = false := decide_eq_false (by omega)
  have e0 : decide (a0_0 ≤ 2) = false := decide_eq_false (by omega)
  have e1 : (a0_0 == 3) = false := beq_eq_false_iff_ne.mpr (by omega)
  have e2 : (a0_0 == 4) = false := beq_eq_false_iff_ne.mpr (by omega)
  have e3 : decide (11 ≤ a0_0) = true := decide_eq_true (by omega)
  have e4 : decide (a0_0 ≤ 15) = false := decide_eq_false (by omega)
  have e5 : decide (19 ≤ a0_0) = true := decide_eq_true (by omega)
  have e6 : decide (a0_0 ≤ 24) = true := decide_eq_true (by omega)
  have e7 : decide (a0_0 ≤ 10) = false := decide_eq_false (by omega)
  have e8 : decide (a0_0 ≤ 18) = false := decide_eq_false (by omega)
  have e9 : decide (a0_0 ≤ 27) = true := decide_eq_true (by omega)
  have e10 : decide (a0_0 ≤ 45) = true := decide_eq_true (by omega)
  clear h0 h1
  have LL := Aside0.mk hl
  clear hl
  go_enter Tryd.func19, Tryd.ntmps19
  go_wp2_with (first | ((with_reducible refine gate_dst (N := 1) rfl ?_); refine box_event ?hg (N := 1) ?hd (cs := #[.int .i64 a0_0, .int .i64 a0_1, .int .i64 a0_2, .int .i64 a0_3, .int .i32 a0_4]) (t := 25) ?hr ?_; (case hd => rfl); (case hg => rfl); (case hr => first | (go_simp; done) | (go_simp; rfl)); intro gb212 hg w3 hbox hb; have n0_ := Aside0.mk (below_step (by repeat (first | (with_reducible first | exact HB.out | apply below_alloc | apply pw_below_drewN | apply below_drew1) | exact HB.out)) hb); have n1_ := Aside0.mk (hbox); have n2_ := Aside0.mk ((by rw [hg]; exact (below_size (by repeat (first | (with_reducible first | exact HB.out | apply below_alloc | apply pw_below_drewN | apply below_drew1) | exact HB.out))) : w.heap.size ≤ gb212)); have n3_ := Aside0.mk ((by rw [hg]; exact (below_size (by repeat (first | (with_reducible first | exact HB.out | apply below_alloc | apply pw_below_drewN | apply below_drew1) | exact HB.out))) : w.heap.size ≤ gb212)); clear HB; have HB := n0_; have BK212 := n1_; have GW212 := n2_; have GE212 := n3_; clear n0_ n1_ n2_ n3_; clear hb hbox hg; have hczw3_0 : w3.cell? ⟨gb212, 0, none⟩ = some (.int .i64 a0_0) := (blk_cell BK212.out 0).trans rfl; have hfzw3_0 := blk_frozen BK212.out 0; have hczw3_1 : w3.cell? ⟨gb212, 1, none⟩ = some (.int .i64 a0_1) := (blk_cell BK212.out 1).trans rfl; have hfzw3_1 := blk_frozen BK212.out 1; have hczw3_2 : w3.cell? ⟨gb212, 2, none⟩ = some (.int .i64 a0_2) := (blk_cell BK212.out 2).trans rfl; have hfzw3_2 := blk_frozen BK212.out 2; have hczw3_3 : w3.cell? ⟨gb212, 3, none⟩ = some (.int .i64 a0_3) := (blk_cell BK212.out 3).trans rfl; have hfzw3_3 := blk_frozen BK212.out 3; have hczw3_4 : w3.cell? ⟨gb212, 4, none⟩ = some (.int .i32 a0_4) := (blk_cell BK212.out 4).trans rfl; have hfzw3_4 := blk_frozen BK212.out 4) | (go_at_call 37; (with_reducible refine (tinctureref5_reg.calls a0_1 true _ R1.out).mono ?_); rintro e w' ⟨rfl, ⟨nd, rfl⟩⟩) | (go_at_call 37; (with_reducible refine (tinctureref5_reg.calls a0_2 true _ R2.out).mono ?_); rintro e w' ⟨rfl, ⟨nd, rfl⟩⟩) | (go_at_call 37; (with_reducible refine (tinctureref5_reg.calls a0_3 true _ R3.out).mono ?_); rintro e w' ⟨rfl, ⟨nd, rfl⟩⟩) | (go_at_call 29; (with_reducible refine (tinctureref5_form.calls a0_0 o f p _ FF.out).mono ?_); rintro e w22 ⟨rfl, hb⟩; have n0_ := Aside0.mk (blk_below (g := gb212) (o := .cells #[.int .i64 a0_0, .int .i64 a0_1, .int .i64 a0_2, .int .i64 a0_3, .int .i32 a0_4] 25 (0, 0)) (by (with_reducible repeat (first | refine blk_drewN ?_ _ | refine blk_drew ?_ | refine blk_alloc ?_ _)); exact BK212.out) hb); have n1_ := Aside0.mk (below_step (by repeat (first | (with_reducible first | exact HB.out | apply below_alloc | apply pw_below_drewN | apply below_drew1 | refine below_set ?_ GE212.out) | exact HB.out)) hb); clear BK212; clear HB; have BK212 := n0_; have HB := n1_; clear n0_ n1_; (try clear hb); have hczw22_0 : w22.cell? ⟨gb212, 0, none⟩ = some (.int .i64 a0_0) := (blk_cell BK212.out 0).trans rfl; have hfzw22_0 := blk_frozen BK212.out 0; have hczw22_1 : w22.cell? ⟨gb212, 1, none⟩ = some (.int .i64 a0_1) := (blk_cell BK212.out 1).trans rfl; have hfzw22_1 := blk_frozen BK212.out 1; have hczw22_2 : w22.cell? ⟨gb212, 2, none⟩ = some (.int .i64 a0_2) := (blk_cell BK212.out 2).trans rfl; have hfzw22_2 := blk_frozen BK212.out 2; have hczw22_3 : w22.cell? ⟨gb212, 3, none⟩ = some (.int .i64 a0_3) := (blk_cell BK212.out 3).trans rfl; have hfzw22_3 := blk_frozen BK212.out 3; have hczw22_4 : w22.cell? ⟨gb212, 4, none⟩ = some (.int .i32 a0_4) := (blk_cell BK212.out 4).trans rfl; have hfzw22_4 := blk_frozen BK212.out 4) | (go_at_call 38; (with_reducible refine (tinctureref5_low.calls a0_4 _ _ _ lo _ LL.out).mono ?_); rintro e w' ⟨rfl, ⟨nd, rfl⟩⟩))
  go_quiet (fail)
  go_wp2_with (first | (go_at_call 38; (with_reducible refine (tinctureref5_low.calls a0_4 _ _ _ lo _ LL.out).mono ?_); rintro e w' ⟨rfl, ⟨nd, rfl⟩⟩))
  go_ret2
  exact ⟨_, rfl, rfl, (by repeat (first | (with_reducible first | exact HB.out | apply below_alloc | apply pw_below_drewN | apply below_drew1 | refine below_set ?_ GE212.out) | exact HB.out))⟩
set_option maxHeartbeats 8000000 in
set_option maxRecDepth 100000 in
theorem enc_B0 (a0_0 a0_1 a0_2 a0_3 a0_4 : Int) (w : World) (o f p : Int) (hr1 : tinctureref5_reg.f a0_1 = some true) (hr2 : tinctureref5_reg.f a0_2 = some true) (hr3 : tinctureref5_reg.f a0_3 = some true) (hf : tinctureref5_form.f a0_0 = some (o, f, p)) (h0 : 5 ≤ a0_0) (h1 : a0_0 ≤ 10) (za : (a0_1 == 0) = false) :
    Calls Tryd.prog 19 #[.agg #[.int .i64 a0_0, .int .i64 a0_1, .int .i64 a0_2, .int .i64 a0_3, .int .i32 a0_4]] w (Pair false (fun _ => True) w) := by
  have hu25 := Tryd.underlying25
  have HB := Aside0.mk (Below.refl w.heap.size w)
  have R1 := Aside0.mk hr1
  have R2 := Aside0.mk hr2
  have R3 := Aside0.mk hr3
  have FF := Aside0.mk hf
  clear hr1 hr2 hr3 hf
  have d0 : decide (a0_0 < 1) = false := decide_eq_false (by omega)
  have d1 : decide (49 < a0_0) = false := decide_eq_false (by omega)
  have e0 : decide (a0_0 ≤ 2) = false := decide_eq_false (by omega)
  have e1 : (a0_0 == 3) = false := beq_eq_false_iff_ne.mpr (by omega)
  have e2 : (a0_0 == 4) = false := beq_eq_false_iff_ne.mpr (by omega)
  have e3 : decide (11 ≤ a0_0) = false := decide_eq_false (by omega)
  have e4 : decide (a0_0 ≤ 15) = true := decide_eq_true (by omega)
  have e5 : decide (19 ≤ a0_0) = false := decide_eq_false (by omega)
  have e6 : decide (a0_0 ≤ 24) = true := decide_eq_true (by omega)
  have e7 : decide (a0_0 ≤ 10) = true := decide_eq_true (by omega)
  have e8 : decide (a0_0 ≤ 18) = true := decide_eq_true (by omega)
  have e9 : decide (a0_0 ≤ 27) = true := decide_eq_true (by omega)
  have e10 : decide (a0_0 ≤ 45) = true := decide_eq_true (by omega)
  clear h0 h1
  go_enter Tryd.func19, Tryd.ntmps19
  go_wp2_with (first | ((with_reducible refine gate_dst (N := 1) rfl ?_); refine box_event ?hg (N := 1) ?hd (cs := #[.int .i64 a0_0, .int .i64 a0_1, .int .i64 a0_2, .int .i64 a0_3, .int .i32 a0_4]) (t := 25) ?hr ?_; (case hd => rfl); (case hg => rfl); (case hr => first | (go_simp; done) | (go_simp; rfl)); intro gb212 hg w3 hbox hb; have n0_ := Aside0.mk (below_step (by repeat (first | (with_reducible first | exact HB.out | apply below_alloc | apply pw_below_drewN | apply below_drew1) | exact HB.out)) hb); have n1_ := Aside0.mk (hbox); have n2_ := Aside0.mk ((by rw [hg]; exact (below_size (by repeat (first | (with_reducible first | exact HB.out | apply below_alloc | apply pw_below_drewN | apply below_drew1) | exact HB.out))) : w.heap.size ≤ gb212)); have n3_ := Aside0.mk ((by rw [hg]; exact (below_size (by repeat (first | (with_reducible first | exact HB.out | apply below_alloc | apply pw_below_drewN | apply below_drew1) | exact HB.out))) : w.heap.size ≤ gb212)); clear HB; have HB := n0_; have BK212 := n1_; have GW212 := n2_; have GE212 := n3_; clear n0_ n1_ n2_ n3_; clear hb hbox hg; have hczw3_0 : w3.cell? ⟨gb212, 0, none⟩ = some (.int .i64 a0_0) := (blk_cell BK212.out 0).trans rfl; have hfzw3_0 := blk_frozen BK212.out 0; have hczw3_1 : w3.cell? ⟨gb212, 1, none⟩ = some (.int .i64 a0_1) := (blk_cell BK212.out 1).trans rfl; have hfzw3_1 := blk_frozen BK212.out 1; have hczw3_2 : w3.cell? ⟨gb212, 2, none⟩ = some (.int .i64 a0_2) := (blk_cell BK212.out 2).trans rfl; have hfzw3_2 := blk_frozen BK212.out 2; have hczw3_3 : w3.cell? ⟨gb212, 3, none⟩ = some (.int .i64 a0_3) := (blk_cell BK212.out 3).trans rfl; have hfzw3_3 := blk_frozen BK212.out 3; have hczw3_4 : w3.cell? ⟨gb212, 4, none⟩ = some (.int .i32 a0_4) := (blk_cell BK212.out 4).trans rfl; have hfzw3_4 := blk_frozen BK212.out 4) | (go_at_call 37; (with_reducible refine (tinctureref5_reg.calls a0_1 true _ R1.out).mono ?_); rintro e w' ⟨rfl, ⟨nd, rfl⟩⟩) | (go_at_call 37; (with_reducible refine (tinctureref5_reg.calls a0_2 true _ R2.out).mono ?_); rintro e w' ⟨rfl, ⟨nd, rfl⟩⟩) | (go_at_call 37; (with_reducible refine (tinctureref5_reg.calls a0_3 true _ R3.out).mono ?_); rintro e w' ⟨rfl, ⟨nd, rfl⟩⟩) | (go_at_call 29; (with_reducible refine (tinctureref5_form.calls a0_0 o f p _ FF.out).mono ?_); rintro e w22 ⟨rfl, hb⟩; have n0_ := Aside0.mk (blk_below (g := gb212) (o := .cells #[.int .i64 a0_0, .int .i64 a0_1, .int .i64 a0_2, .int .i64 a0_3, .int .i32 a0_4] 25 (0, 0)) (by (with_reducible repeat (first | refine blk_drewN ?_ _ | refine blk_drew ?_ | refine blk_alloc ?_ _)); exact BK212.out) hb); have n1_ := Aside0.mk (below_step (by repeat (first | (with_reducible first | exact HB.out | apply below_alloc | apply pw_below_drewN | apply below_drew1 | refine below_set ?_ GE212.out) | exact HB.out)) hb); clear BK212; clear HB; have BK212 := n0_; have HB := n1_; clear n0_ n1_; (try clear hb); have hczw22_0 : w22.cell? ⟨gb212, 0, none⟩ = some (.int .i64 a0_0) := (blk_cell BK212.out 0).trans rfl; have hfzw22_0 := blk_frozen BK212.out 0; have hczw22_1 : w22.cell? ⟨gb212, 1, none⟩ = some (.int .i64 a0_1) := (blk_cell BK212.out 1).trans rfl; have hfzw22_1 := blk_frozen BK212.out 1; have hczw22_2 : w22.cell? ⟨gb212, 2, none⟩ = some (.int .i64 a0_2) := (blk_cell BK212.out 2).trans rfl; have hfzw22_2 := blk_frozen BK212.out 2; have hczw22_3 : w22.cell? ⟨gb212, 3, none⟩ = some (.int .i64 a0_3) := (blk_cell BK212.out 3).trans rfl; have hfzw22_3 := blk_frozen BK212.out 3; have hczw22_4 : w22.cell? ⟨gb212, 4, none⟩ = some (.int .i32 a0_4) := (blk_cell BK212.out 4).trans rfl; have hfzw22_4 := blk_frozen BK212.out 4))
  go_quiet (fail)
  go_wp2
  go_ret2
  exact ⟨_, rfl, trivial, (by repeat (first | (with_reducible first | exact HB.out | apply below_alloc | apply pw_below_drewN | apply below_drew1 | refine below_set ?_ GE212.out) | exact HB.out))⟩
set_option maxHeartbeats 8000000 in
set_option maxRecDepth 100000 in
theorem enc_B1 (a0_0 a0_1 a0_2 a0_3 a0_4 : Int) (w : World) (o f p : Int) (lo : Bool) (hr1 : tinctureref5_reg.f a0_1 = some true) (hr2 : tinctureref5_reg.f a0_2 = some true) (hr3 : tinctureref5_reg.f a0_3 = some true) (hf : tinctureref5_form.f a0_0 = some (o, f, p)) (h0 : 5 ≤ a0_0) (h1 : a0_0 ≤ 10) (za : (a0_1 == 0) = true) (hl : tinctureref5_low.f a0_4 (-4096) 4094 2 = some lo) :
    Calls Tryd.prog 19 #[.agg #[.int .i64 a0_0, .int .i64 a0_1, .int .i64 a0_2, .int .i64 a0_3, .int .i32 a0_4]] w (Pair lo (fun x => x = (Go.bits .or .u32 (Go.bits .or .u32 (Go.bits .or .u32 (Go.bits .or .u32 (Go.bits .or .u32 (Go.bits .or .u32 (Go.bits .or .u32 o (f * 4096 % 4294967296)) (a0_2 % 4294967296 * 32768 % 4294967296)) (a0_3 % 4294967296 * 1048576 % 4294967296)) (Go.bits .and .u32 ((a0_4 % 4294967296) / 4096) 1 * 2147483648 % 4294967296)) (Go.bits .and .u32 ((a0_4 % 4294967296) / 32) 63 * 33554432 % 4294967296)) (Go.bits .and .u32 ((a0_4 % 4294967296) / 2) 15 * 256 % 4294967296)) (Go.bits .and .u32 ((a0_4 % 4294967296) / 2048) 1 * 128 % 4294967296))) w) := by
  have hu25 := Tryd.underlying25
  have HB := Aside0.mk (Below.refl w.heap.size w)
  have R1 := Aside0.mk hr1
  have R2 := Aside0.mk hr2
  have R3 := Aside0.mk hr3
  have FF := Aside0.mk hf
  clear hr1 hr2 hr3 hf
  have d0 : decide (a0_0 < 1) = false := decide_eq_false (by omega)
  have d1 : decide (49 < a0_0) = false := decide_eq_false (by omega)
  have e0 : decide (a0_0 ≤ 2) = false := decide_eq_false (by omega)
  have e1 : (a0_0 == 3) = false := beq_eq_false_iff_ne.mpr (by omega)
  have e2 : (a0_0 == 4) = false := beq_eq_false_iff_ne.mpr (by omega)
  have e3 : decide (11 ≤ a0_0) = false := decide_eq_false (by omega)
  have e4 : decide (a0_0 ≤ 15) = true := decide_eq_true (by omega)
  have e5 : decide (19 ≤ a0_0) = false := decide_eq_false (by omega)
  have e6 : decide (a0_0 ≤ 24) = true := decide_eq_true (by omega)
  have e7 : decide (a0_0 ≤ 10) = true := decide_eq_true (by omega)
  have e8 : decide (a0_0 ≤ 18) = true := decide_eq_true (by omega)
  have e9 : decide (a0_0 ≤ 27) = true := decide_eq_true (by omega)
  have e10 : decide (a0_0 ≤ 45) = true := decide_eq_true (by omega)
  clear h0 h1
  have LL := Aside0.mk hl
  clear hl
  go_enter Tryd.func19, Tryd.ntmps19
  go_wp2_with (first | ((with_reducible refine gate_dst (N := 1) rfl ?_); refine box_event ?hg (N := 1) ?hd (cs := #[.int .i64 a0_0, .int .i64 a0_1, .int .i64 a0_2, .int .i64 a0_3, .int .i32 a0_4]) (t := 25) ?hr ?_; (case hd => rfl); (case hg => rfl); (case hr => first | (go_simp; done) | (go_simp; rfl)); intro gb212 hg w3 hbox hb; have n0_ := Aside0.mk (below_step (by repeat (first | (with_reducible first | exact HB.out | apply below_alloc | apply pw_below_drewN | apply below_drew1) | exact HB.out)) hb); have n1_ := Aside0.mk (hbox); have n2_ := Aside0.mk ((by rw [hg]; exact (below_size (by repeat (first | (with_reducible first | exact HB.out | apply below_alloc | apply pw_below_drewN | apply below_drew1) | exact HB.out))) : w.heap.size ≤ gb212)); have n3_ := Aside0.mk ((by rw [hg]; exact (below_size (by repeat (first | (with_reducible first | exact HB.out | apply below_alloc | apply pw_below_drewN | apply below_drew1) | exact HB.out))) : w.heap.size ≤ gb212)); clear HB; have HB := n0_; have BK212 := n1_; have GW212 := n2_; have GE212 := n3_; clear n0_ n1_ n2_ n3_; clear hb hbox hg; have hczw3_0 : w3.cell? ⟨gb212, 0, none⟩ = some (.int .i64 a0_0) := (blk_cell BK212.out 0).trans rfl; have hfzw3_0 := blk_frozen BK212.out 0; have hczw3_1 : w3.cell? ⟨gb212, 1, none⟩ = some (.int .i64 a0_1) := (blk_cell BK212.out 1).trans rfl; have hfzw3_1 := blk_frozen BK212.out 1; have hczw3_2 : w3.cell? ⟨gb212, 2, none⟩ = some (.int .i64 a0_2) := (blk_cell BK212.out 2).trans rfl; have hfzw3_2 := blk_frozen BK212.out 2; have hczw3_3 : w3.cell? ⟨gb212, 3, none⟩ = some (.int .i64 a0_3) := (blk_cell BK212.out 3).trans rfl; have hfzw3_3 := blk_frozen BK212.out 3; have hczw3_4 : w3.cell? ⟨gb212, 4, none⟩ = some (.int .i32 a0_4) := (blk_cell BK212.out 4).trans rfl; have hfzw3_4 := blk_frozen BK212.out 4) | (go_at_call 37; (with_reducible refine (tinctureref5_reg.calls a0_1 true _ R1.out).mono ?_); rintro e w' ⟨rfl, ⟨nd, rfl⟩⟩) | (go_at_call 37; (with_reducible refine (tinctureref5_reg.calls a0_2 true _ R2.out).mono ?_); rintro e w' ⟨rfl, ⟨nd, rfl⟩⟩) | (go_at_call 37; (with_reducible refine (tinctureref5_reg.calls a0_3 true _ R3.out).mono ?_); rintro e w' ⟨rfl, ⟨nd, rfl⟩⟩) | (go_at_call 29; (with_reducible refine (tinctureref5_form.calls a0_0 o f p _ FF.out).mono ?_); rintro e w22 ⟨rfl, hb⟩; have n0_ := Aside0.mk (blk_below (g := gb212) (o := .cells #[.int .i64 a0_0, .int .i64 a0_1, .int .i64 a0_2, .int .i64 a0_3, .int .i32 a0_4] 25 (0, 0)) (by (with_reducible repeat (first | refine blk_drewN ?_ _ | refine blk_drew ?_ | refine blk_alloc ?_ _)); exact BK212.out) hb); have n1_ := Aside0.mk (below_step (by repeat (first | (with_reducible first | exact HB.out | apply below_alloc | apply pw_below_drewN | apply below_drew1 | refine below_set ?_ GE212.out) | exact HB.out)) hb); clear BK212; clear HB; have BK212 := n0_; have HB := n1_; clear n0_ n1_; (try clear hb); have hczw22_0 : w22.cell? ⟨gb212, 0, none⟩ = some (.int .i64 a0_0) := (blk_cell BK212.out 0).trans rfl; have hfzw22_0 := blk_frozen BK212.out 0; have hczw22_1 : w22.cell? ⟨gb212, 1, none⟩ = some (.int .i64 a0_1) := (blk_cell BK212.out 1).trans rfl; have hfzw22_1 := blk_frozen BK212.out 1; have hczw22_2 : w22.cell? ⟨gb212, 2, none⟩ = some (.int .i64 a0_2) := (blk_cell BK212.out 2).trans rfl; have hfzw22_2 := blk_frozen BK212.out 2; have hczw22_3 : w22.cell? ⟨gb212, 3, none⟩ = some (.int .i64 a0_3) := (blk_cell BK212.out 3).trans rfl; have hfzw22_3 := blk_frozen BK212.out 3; have hczw22_4 : w22.cell? ⟨gb212, 4, none⟩ = some (.int .i32 a0_4) := (blk_cell BK212.out 4).trans rfl; have hfzw22_4 := blk_frozen BK212.out 4) | (go_at_call 38; (with_reducible refine (tinctureref5_low.calls a0_4 _ _ _ lo _ LL.out).mono ?_); rintro e w' ⟨rfl, ⟨nd, rfl⟩⟩))
  go_quiet (fail)
  go_wp2_with (first | (go_at_call 38; (with_reducible refine (tinctureref5_low.calls a0_4 _ _ _ lo _ LL.out).mono ?_); rintro e w' ⟨rfl, ⟨nd, rfl⟩⟩))
  go_ret2
  exact ⟨_, rfl, rfl, (by repeat (first | (with_reducible first | exact HB.out | apply below_alloc | apply pw_below_drewN | apply below_drew1 | refine below_set ?_ GE212.out) | exact HB.out))⟩
set_option maxHeartbeats 8000000 in
set_option maxRecDepth 100000 in
theorem enc_S0 (a0_0 a0_1 a0_2 a0_3 a0_4 : Int) (w : World) (o f p : Int) (hr1 : tinctureref5_reg.f a0_1 = some true) (hr2 : tinctureref5_reg.f a0_2 = some true) (hr3 : tinctureref5_reg.f a0_3 = some true) (hf : tinctureref5_form.f a0_0 = some (o, f, p)) (h0 : 16 ≤ a0_0) (h1 : a0_0 ≤ 18) (za : (a0_1 == 0) = false) :
    Calls Tryd.prog 19 #[.agg #[.int .i64 a0_0, .int .i64 a0_1, .int .i64 a0_2, .int .i64 a0_3, .int .i32 a0_4]] w (Pair false (fun _ => True) w) := by
  have hu25 := Tryd.underlying25
  have HB := Aside0.mk (Below.refl w.heap.size w)
  have R1 := Aside0.mk hr1
  have R2 := Aside0.mk hr2
  have R3 := Aside0.mk hr3
  have FF := Aside0.mk hf
  clear hr1 hr2 hr3 hf
  have d0 : decide (a0_0 < 1) = false := decide_eq_false (by omega)
  have d1 : decide (49 < a0_0) = false := decide_eq_false (by omega)
  have e0 : decide (a0_0 ≤ 2) = false := decide_eq_false (by omega)
  have e1 : (a0_0 == 3) = false := beq_eq_false_iff_ne.mpr (by omega)
  have e2 : (a0_0 == 4) = false := beq_eq_false_iff_ne.mpr (by omega)
  have e3 : decide (11 ≤ a0_0) = true := decide_eq_true (by omega)
  have e4 : decide (a0_0 ≤ 15) = false := decide_eq_false (by omega)
  have e5 : decide (19 ≤ a0_0) = false := decide_eq_false (by omega)
  have e6 : decide (a0_0 ≤ 24) = true := decide_eq_true (by omega)
  have e7 : decide (a0_0 ≤ 10) = false := decide_eq_false (by omega)
  have e8 : decide (a0_0 ≤ 18) = true := decide_eq_true (by omega)
  have e9 : decide (a0_0 ≤ 27) = true := decide_eq_true (by omega)
  have e10 : decide (a0_0 ≤ 45) = true := decide_eq_true (by omega)
  clear h0 h1
  go_enter Tryd.func19, Tryd.ntmps19
  go_wp2_with (first | ((with_reducible refine gate_dst (N := 1) rfl ?_); refine box_event ?hg (N := 1) ?hd (cs := #[.int .i64 a0_0, .int .i64 a0_1, .int .i64 a0_2, .int .i64 a0_3, .int .i32 a0_4]) (t := 25) ?hr ?_; (case hd => rfl); (case hg => rfl); (case hr => first | (go_simp; done) | (go_simp; rfl)); intro gb212 hg w3 hbox hb; have n0_ := Aside0.mk (below_step (by repeat (first | (with_reducible first | exact HB.out | apply below_alloc | apply pw_below_drewN | apply below_drew1) | exact HB.out)) hb); have n1_ := Aside0.mk (hbox); have n2_ := Aside0.mk ((by rw [hg]; exact (below_size (by repeat (first | (with_reducible first | exact HB.out | apply below_alloc | apply pw_below_drewN | apply below_drew1) | exact HB.out))) : w.heap.size ≤ gb212)); have n3_ := Aside0.mk ((by rw [hg]; exact (below_size (by repeat (first | (with_reducible first | exact HB.out | apply below_alloc | apply pw_below_drewN | apply below_drew1) | exact HB.out))) : w.heap.size ≤ gb212)); clear HB; have HB := n0_; have BK212 := n1_; have GW212 := n2_; have GE212 := n3_; clear n0_ n1_ n2_ n3_; clear hb hbox hg; have hczw3_0 : w3.cell? ⟨gb212, 0, none⟩ = some (.int .i64 a0_0) := (blk_cell BK212.out 0).trans rfl; have hfzw3_0 := blk_frozen BK212.out 0; have hczw3_1 : w3.cell? ⟨gb212, 1, none⟩ = some (.int .i64 a0_1) := (blk_cell BK212.out 1).trans rfl; have hfzw3_1 := blk_frozen BK212.out 1; have hczw3_2 : w3.cell? ⟨gb212, 2, none⟩ = some (.int .i64 a0_2) := (blk_cell BK212.out 2).trans rfl; have hfzw3_2 := blk_frozen BK212.out 2; have hczw3_3 : w3.cell? ⟨gb212, 3, none⟩ = some (.int .i64 a0_3) := (blk_cell BK212.out 3).trans rfl; have hfzw3_3 := blk_frozen BK212.out 3; have hczw3_4 : w3.cell? ⟨gb212, 4, none⟩ = some (.int .i32 a0_4) := (blk_cell BK212.out 4).trans rfl; have hfzw3_4 := blk_frozen BK212.out 4) | (go_at_call 37; (with_reducible refine (tinctureref5_reg.calls a0_1 true _ R1.out).mono ?_); rintro e w' ⟨rfl, ⟨nd, rfl⟩⟩) | (go_at_call 37; (with_reducible refine (tinctureref5_reg.calls a0_2 true _ R2.out).mono ?_); rintro e w' ⟨rfl, ⟨nd, rfl⟩⟩) | (go_at_call 37; (with_reducible refine (tinctureref5_reg.calls a0_3 true _ R3.out).mono ?_); rintro e w' ⟨rfl, ⟨nd, rfl⟩⟩) | (go_at_call 29; (with_reducible refine (tinctureref5_form.calls a0_0 o f p _ FF.out).mono ?_); rintro e w22 ⟨rfl, hb⟩; have n0_ := Aside0.mk (blk_below (g := gb212) (o := .cells #[.int .i64 a0_0, .int .i64 a0_1, .int .i64 a0_2, .int .i64 a0_3, .int .i32 a0_4] 25 (0, 0)) (by (with_reducible repeat (first | refine blk_drewN ?_ _ | refine blk_drew ?_ | refine blk_alloc ?_ _)); exact BK212.out) hb); have n1_ := Aside0.mk (below_step (by repeat (first | (with_reducible first | exact HB.out | apply below_alloc | apply pw_below_drewN | apply below_drew1 | refine below_set ?_ GE212.out) | exact HB.out)) hb); clear BK212; clear HB; have BK212 := n0_; have HB := n1_; clear n0_ n1_; (try clear hb); have hczw22_0 : w22.cell? ⟨gb212, 0, none⟩ = some (.int .i64 a0_0) := (blk_cell BK212.out 0).trans rfl; have hfzw22_0 := blk_frozen BK212.out 0; have hczw22_1 : w22.cell? ⟨gb212, 1, none⟩ = some (.int .i64 a0_1) := (blk_cell BK212.out 1).trans rfl; have hfzw22_1 := blk_frozen BK212.out 1; have hczw22_2 : w22.cell? ⟨gb212, 2, none⟩ = some (.int .i64 a0_2) := (blk_cell BK212.out 2).trans rfl; have hfzw22_2 := blk_frozen BK212.out 2; have hczw22_3 : w22.cell? ⟨gb212, 3, none⟩ = some (.int .i64 a0_3) := (blk_cell BK212.out 3).trans rfl; have hfzw22_3 := blk_frozen BK212.out 3; have hczw22_4 : w22.cell? ⟨gb212, 4, none⟩ = some (.int .i32 a0_4) := (blk_cell BK212.out 4).trans rfl; have hfzw22_4 := blk_frozen BK212.out 4))
  go_quiet (fail)
  go_wp2
  go_ret2
  exact ⟨_, rfl, trivial, (by repeat (first | (with_reducible first | exact HB.out | apply below_alloc | apply pw_below_drewN | apply below_drew1 | refine below_set ?_ GE212.out) | exact HB.out))⟩
set_option maxHeartbeats 8000000 in
set_option maxRecDepth 100000 in
theorem enc_S1 (a0_0 a0_1 a0_2 a0_3 a0_4 : Int) (w : World) (o f p : Int) (lo : Bool) (hr1 : tinctureref5_reg.f a0_1 = some true) (hr2 : tinctureref5_reg.f a0_2 = some true) (hr3 : tinctureref5_reg.f a0_3 = some true) (hf : tinctureref5_form.f a0_0 = some (o, f, p)) (h0 : 16 ≤ a0_0) (h1 : a0_0 ≤ 18) (za : (a0_1 == 0) = true) (hl : tinctureref5_low.f a0_4 (-2048) 2047 1 = some lo) :
    Calls Tryd.prog 19 #[.agg #[.int .i64 a0_0, .int .i64 a0_1, .int .i64 a0_2, .int .i64 a0_3, .int .i32 a0_4]] w (Pair lo (fun x => x = (Go.bits .or .u32 (Go.bits .or .u32 (Go.bits .or .u32 (Go.bits .or .u32 (Go.bits .or .u32 o (f * 4096 % 4294967296)) (a0_2 % 4294967296 * 32768 % 4294967296)) (a0_3 % 4294967296 * 1048576 % 4294967296)) (Go.bits .and .u32 ((a0_4 % 4294967296) / 32) 127 * 33554432 % 4294967296)) (Go.bits .and .u32 (a0_4 % 4294967296) 31 * 128 % 4294967296))) w) := by
  have hu25 := Tryd.underlying25
  have HB := Aside0.mk (Below.refl w.heap.size w)
  have R1 := Aside0.mk hr1
  have R2 := Aside0.mk hr2
  have R3 := Aside0.mk hr3
  have FF := Aside0.mk hf
  clear hr1 hr2 hr3 hf
  have d0 : decide (a0_0 < 1) = false := decide_eq_false (by omega)
  have d1 : decide (49 < a0_0) = false := decide_eq_false (by omega)
  have e0 : decide (a0_0 ≤ 2) = false := decide_eq_false (by omega)
  have e1 : (a0_0 == 3) = false := beq_eq_false_iff_ne.mpr (by omega)
  have e2 : (a0_0 == 4) = false := beq_eq_false_iff_ne.mpr (by omega)
  have e3 : decide (11 ≤ a0_0) = true := decide_eq_true (by omega)
  have e4 : decide (a0_0 ≤ 15) = false := decide_eq_false (by omega)
  have e5 : decide (19 ≤ a0_0) = false := decide_eq_false (by omega)
  have e6 : decide (a0_0 ≤ 24) = true := decide_eq_true (by omega)
  have e7 : decide (a0_0 ≤ 10) = false := decide_eq_false (by omega)
  have e8 : decide (a0_0 ≤ 18) = true := decide_eq_true (by omega)
  have e9 : decide (a0_0 ≤ 27) = true := decide_eq_true (by omega)
  have e10 : decide (a0_0 ≤ 45) = true := decide_eq_true (by omega)
  clear h0 h1
  have LL := Aside0.mk hl
  clear hl
  go_enter Tryd.func19, Tryd.ntmps19
  go_wp2_with (first | ((with_reducible refine gate_dst (N := 1) rfl ?_); refine box_event ?hg (N := 1) ?hd (cs := #[.int .i64 a0_0, .int .i64 a0_1, .int .i64 a0_2, .int .i64 a0_3, .int .i32 a0_4]) (t := 25) ?hr ?_; (case hd => rfl); (case hg => rfl); (case hr => first | (go_simp; done) | (go_simp; rfl)); intro gb212 hg w3 hbox hb; have n0_ := Aside0.mk (below_step (by repeat (first | (with_reducible first | exact HB.out | apply below_alloc | apply pw_below_drewN | apply below_drew1) | exact HB.out)) hb); have n1_ := Aside0.mk (hbox); have n2_ := Aside0.mk ((by rw [hg]; exact (below_size (by repeat (first | (with_reducible first | exact HB.out | apply below_alloc | apply pw_below_drewN | apply below_drew1) | exact HB.out))) : w.heap.size ≤ gb212)); have n3_ := Aside0.mk ((by rw [hg]; exact (below_size (by repeat (first | (with_reducible first | exact HB.out | apply below_alloc | apply pw_below_drewN | apply below_drew1) | exact HB.out))) : w.heap.size ≤ gb212)); clear HB; have HB := n0_; have BK212 := n1_; have GW212 := n2_; have GE212 := n3_; clear n0_ n1_ n2_ n3_; clear hb hbox hg; have hczw3_0 : w3.cell? ⟨gb212, 0, none⟩ = some (.int .i64 a0_0) := (blk_cell BK212.out 0).trans rfl; have hfzw3_0 := blk_frozen BK212.out 0; have hczw3_1 : w3.cell? ⟨gb212, 1, none⟩ = some (.int .i64 a0_1) := (blk_cell BK212.out 1).trans rfl; have hfzw3_1 := blk_frozen BK212.out 1; have hczw3_2 : w3.cell? ⟨gb212, 2, none⟩ = some (.int .i64 a0_2) := (blk_cell BK212.out 2).trans rfl; have hfzw3_2 := blk_frozen BK212.out 2; have hczw3_3 : w3.cell? ⟨gb212, 3, none⟩ = some (.int .i64 a0_3) := (blk_cell BK212.out 3).trans rfl; have hfzw3_3 := blk_frozen BK212.out 3; have hczw3_4 : w3.cell? ⟨gb212, 4, none⟩ = some (.int .i32 a0_4) := (blk_cell BK212.out 4).trans rfl; have hfzw3_4 := blk_frozen BK212.out 4) | (go_at_call 37; (with_reducible refine (tinctureref5_reg.calls a0_1 true _ R1.out).mono ?_); rintro e w' ⟨rfl, ⟨nd, rfl⟩⟩) | (go_at_call 37; (with_reducible refine (tinctureref5_reg.calls a0_2 true _ R2.out).mono ?_); rintro e w' ⟨rfl, ⟨nd, rfl⟩⟩) | (go_at_call 37; (with_reducible refine (tinctureref5_reg.calls a0_3 true _ R3.out).mono ?_); rintro e w' ⟨rfl, ⟨nd, rfl⟩⟩) | (go_at_call 29; (with_reducible refine (tinctureref5_form.calls a0_0 o f p _ FF.out).mono ?_); rintro e w22 ⟨rfl, hb⟩; have n0_ := Aside0.mk (blk_below (g := gb212) (o := .cells #[.int .i64 a0_0, .int .i64 a0_1, .int .i64 a0_2, .int .i64 a0_3, .int .i32 a0_4] 25 (0, 0)) (by (with_reducible repeat (first | refine blk_drewN ?_ _ | refine blk_drew ?_ | refine blk_alloc ?_ _)); exact BK212.out) hb); have n1_ := Aside0.mk (below_step (by repeat (first | (with_reducible first | exact HB.out | apply below_alloc | apply pw_below_drewN | apply below_drew1 | refine below_set ?_ GE212.out) | exact HB.out)) hb); clear BK212; clear HB; have BK212 := n0_; have HB := n1_; clear n0_ n1_; (try clear hb); have hczw22_0 : w22.cell? ⟨gb212, 0, none⟩ = some (.int .i64 a0_0) := (blk_cell BK212.out 0).trans rfl; have hfzw22_0 := blk_frozen BK212.out 0; have hczw22_1 : w22.cell? ⟨gb212, 1, none⟩ = some (.int .i64 a0_1) := (blk_cell BK212.out 1).trans rfl; have hfzw22_1 := blk_frozen BK212.out 1; have hczw22_2 : w22.cell? ⟨gb212, 2, none⟩ = some (.int .i64 a0_2) := (blk_cell BK212.out 2).trans rfl; have hfzw22_2 := blk_frozen BK212.out 2; have hczw22_3 : w22.cell? ⟨gb212, 3, none⟩ = some (.int .i64 a0_3) := (blk_cell BK212.out 3).trans rfl; have hfzw22_3 := blk_frozen BK212.out 3; have hczw22_4 : w22.cell? ⟨gb212, 4, none⟩ = some (.int .i32 a0_4) := (blk_cell BK212.out 4).trans rfl; have hfzw22_4 := blk_frozen BK212.out 4) | (go_at_call 38; (with_reducible refine (tinctureref5_low.calls a0_4 _ _ _ lo _ LL.out).mono ?_); rintro e w' ⟨rfl, ⟨nd, rfl⟩⟩))
  go_quiet (fail)
  go_wp2_with (first | (go_at_call 38; (with_reducible refine (tinctureref5_low.calls a0_4 _ _ _ lo _ LL.out).mono ?_); rintro e w' ⟨rfl, ⟨nd, rfl⟩⟩))
  go_ret2
  exact ⟨_, rfl, rfl, (by repeat (first | (with_reducible first | exact HB.out | apply below_alloc | apply pw_below_drewN | apply below_drew1 | refine below_set ?_ GE212.out) | exact HB.out))⟩
set_option maxHeartbeats 8000000 in
set_option maxRecDepth 100000 in
theorem enc_H0 (a0_0 a0_1 a0_2 a0_3 a0_4 : Int) (w : World) (o f p : Int) (hr1 : tinctureref5_reg.f a0_1 = some true) (hr2 : tinctureref5_reg.f a0_2 = some true) (hr3 : tinctureref5_reg.f a0_3 = some true) (hf : tinctureref5_form.f a0_0 = some (o, f, p)) (h0 : 25 ≤ a0_0) (h1 : a0_0 ≤ 27) (zc : (a0_3 == 0) = false) :
    Calls Tryd.prog 19 #[.agg #[.int .i64 a0_0, .int .i64 a0_1, .int .i64 a0_2, .int .i64 a0_3, .int .i32 a0_4]] w (Pair false (fun _ => True) w) := by
  have hu25 := Tryd.underlying25
  have HB := Aside0.mk (Below.refl w.heap.size w)
  have R1 := Aside0.mk hr1
  have R2 := Aside0.mk hr2
  have R3 := Aside0.mk hr3
  have FF := Aside0.mk hf
  clear hr1 hr2 hr3 hf
  have d0 : decide (a0_0 < 1) = false := decide_eq_false (by omega)
  have d1 : decide (49 < a0_0) = false := decide_eq_false (by omega)
  have e0 : decide (a0_0 ≤ 2) = false := decide_eq_false (by omega)
  have e1 : (a0_0 == 3) = false := beq_eq_false_iff_ne.mpr (by omega)
  have e2 : (a0_0 == 4) = false := beq_eq_false_iff_ne.mpr (by omega)
  have e3 : decide (11 ≤ a0_0) = true := decide_eq_true (by omega)
  have e4 : decide (a0_0 ≤ 15) = false := decide_eq_false (by omega)
  have e5 : decide (19 ≤ a0_0) = true := decide_eq_true (by omega)
  have e6 : decide (a0_0 ≤ 24) = false := decide_eq_false (by omega)
  have e7 : decide (a0_0 ≤ 10) = false := decide_eq_false (by omega)
  have e8 : decide (a0_0 ≤ 18) = false := decide_eq_false (by omega)
  have e9 : decide (a0_0 ≤ 27) = true := decide_eq_true (by omega)
  have e10 : decide (a0_0 ≤ 45) = true := decide_eq_true (by omega)
  clear h0 h1
  go_enter Tryd.func19, Tryd.ntmps19
  go_wp2_with (first | ((with_reducible refine gate_dst (N := 1) rfl ?_); refine box_event ?hg (N := 1) ?hd (cs := #[.int .i64 a0_0, .int .i64 a0_1, .int .i64 a0_2, .int .i64 a0_3, .int .i32 a0_4]) (t := 25) ?hr ?_; (case hd => rfl); (case hg => rfl); (case hr => first | (go_simp; done) | (go_simp; rfl)); intro gb212 hg w3 hbox hb; have n0_ := Aside0.mk (below_step (by repeat (first | (with_reducible first | exact HB.out | apply below_alloc | apply pw_below_drewN | apply below_drew1) | exact HB.out)) hb); have n1_ := Aside0.mk (hbox); have n2_ := Aside0.mk ((by rw [hg]; exact (below_size (by repeat (first | (with_reducible first | exact HB.out | apply below_alloc | apply pw_below_drewN | apply below_drew1) | exact HB.out))) : w.heap.size ≤ gb212)); have n3_ := Aside0.mk ((by rw [hg]; exact (below_size (by repeat (first | (with_reducible first | exact HB.out | apply below_alloc | apply pw_below_drewN | apply below_drew1) | exact HB.out))) : w.heap.size ≤ gb212)); clear HB; have HB := n0_; have BK212 := n1_; have GW212 := n2_; have GE212 := n3_; clear n0_ n1_ n2_ n3_; clear hb hbox hg; have hczw3_0 : w3.cell? ⟨gb212, 0, none⟩ = some (.int .i64 a0_0) := (blk_cell BK212.out 0).trans rfl; have hfzw3_0 := blk_frozen BK212.out 0; have hczw3_1 : w3.cell? ⟨gb212, 1, none⟩ = some (.int .i64 a0_1) := (blk_cell BK212.out 1).trans rfl; have hfzw3_1 := blk_frozen BK212.out 1; have hczw3_2 : w3.cell? ⟨gb212, 2, none⟩ = some (.int .i64 a0_2) := (blk_cell BK212.out 2).trans rfl; have hfzw3_2 := blk_frozen BK212.out 2; have hczw3_3 : w3.cell? ⟨gb212, 3, none⟩ = some (.int .i64 a0_3) := (blk_cell BK212.out 3).trans rfl; have hfzw3_3 := blk_frozen BK212.out 3; have hczw3_4 : w3.cell? ⟨gb212, 4, none⟩ = some (.int .i32 a0_4) := (blk_cell BK212.out 4).trans rfl; have hfzw3_4 := blk_frozen BK212.out 4) | (go_at_call 37; (with_reducible refine (tinctureref5_reg.calls a0_1 true _ R1.out).mono ?_); rintro e w' ⟨rfl, ⟨nd, rfl⟩⟩) | (go_at_call 37; (with_reducible refine (tinctureref5_reg.calls a0_2 true _ R2.out).mono ?_); rintro e w' ⟨rfl, ⟨nd, rfl⟩⟩) | (go_at_call 37; (with_reducible refine (tinctureref5_reg.calls a0_3 true _ R3.out).mono ?_); rintro e w' ⟨rfl, ⟨nd, rfl⟩⟩) | (go_at_call 29; (with_reducible refine (tinctureref5_form.calls a0_0 o f p _ FF.out).mono ?_); rintro e w22 ⟨rfl, hb⟩; have n0_ := Aside0.mk (blk_below (g := gb212) (o := .cells #[.int .i64 a0_0, .int .i64 a0_1, .int .i64 a0_2, .int .i64 a0_3, .int .i32 a0_4] 25 (0, 0)) (by (with_reducible repeat (first | refine blk_drewN ?_ _ | refine blk_drew ?_ | refine blk_alloc ?_ _)); exact BK212.out) hb); have n1_ := Aside0.mk (below_step (by repeat (first | (with_reducible first | exact HB.out | apply below_alloc | apply pw_below_drewN | apply below_drew1 | refine below_set ?_ GE212.out) | exact HB.out)) hb); clear BK212; clear HB; have BK212 := n0_; have HB := n1_; clear n0_ n1_; (try clear hb); have hczw22_0 : w22.cell? ⟨gb212, 0, none⟩ = some (.int .i64 a0_0) := (blk_cell BK212.out 0).trans rfl; have hfzw22_0 := blk_frozen BK212.out 0; have hczw22_1 : w22.cell? ⟨gb212, 1, none⟩ = some (.int .i64 a0_1) := (blk_cell BK212.out 1).trans rfl; have hfzw22_1 := blk_frozen BK212.out 1; have hczw22_2 : w22.cell? ⟨gb212, 2, none⟩ = some (.int .i64 a0_2) := (blk_cell BK212.out 2).trans rfl; have hfzw22_2 := blk_frozen BK212.out 2; have hczw22_3 : w22.cell? ⟨gb212, 3, none⟩ = some (.int .i64 a0_3) := (blk_cell BK212.out 3).trans rfl; have hfzw22_3 := blk_frozen BK212.out 3; have hczw22_4 : w22.cell? ⟨gb212, 4, none⟩ = some (.int .i32 a0_4) := (blk_cell BK212.out 4).trans rfl; have hfzw22_4 := blk_frozen BK212.out 4))
  go_quiet (fail)
  go_wp2
  go_ret2
  exact ⟨_, rfl, trivial, (by repeat (first | (with_reducible first | exact HB.out | apply below_alloc | apply pw_below_drewN | apply below_drew1 | refine below_set ?_ GE212.out) | exact HB.out))⟩
set_option maxHeartbeats 8000000 in
set_option maxRecDepth 100000 in
theorem enc_H1 (a0_0 a0_1 a0_2 a0_3 a0_4 : Int) (w : World) (o f p : Int) (lo : Bool) (hr1 : tinctureref5_reg.f a0_1 = some true) (hr2 : tinctureref5_reg.f a0_2 = some true) (hr3 : tinctureref5_reg.f a0_3 = some true) (hf : tinctureref5_form.f a0_0 = some (o, f, p)) (h0 : 25 ≤ a0_0) (h1 : a0_0 ≤ 27) (zc : (a0_3 == 0) = true) (hl : tinctureref5_low.f a0_4 (0) 31 1 = some lo) :
    Calls Tryd.prog 19 #[.agg #[.int .i64 a0_0, .int .i64 a0_1, .int .i64 a0_2, .int .i64 a0_3, .int .i32 a0_4]] w (Pair lo (fun x => x = (Go.bits .or .u32 (Go.bits .or .u32 (Go.bits .or .u32 (Go.bits .or .u32 (Go.bits .or .u32 o (f * 4096 % 4294967296)) (a0_1 % 4294967296 * 128 % 4294967296)) (a0_2 % 4294967296 * 32768 % 4294967296)) (Go.bits .and .u32 (a0_4 % 4294967296) 31 * 1048576 % 4294967296)) (p * 33554432 % 4294967296))) w) := by
  have hu25 := Tryd.underlying25
  have HB := Aside0.mk (Below.refl w.heap.size w)
  have R1 := Aside0.mk hr1
  have R2 := Aside0.mk hr2
  have R3 := Aside0.mk hr3
  have FF := Aside0.mk hf
  clear hr1 hr2 hr3 hf
  have d0 : decide (a0_0 < 1) = false := decide_eq_false (by omega)
  have d1 : decide (49 < a0_0) = false := decide_eq_false (by omega)
  have e0 : decide (a0_0 ≤ 2) = false := decide_eq_false (by omega)
  have e1 : (a0_0 == 3) = false := beq_eq_false_iff_ne.mpr (by omega)
  have e2 : (a0_0 == 4) = false := beq_eq_false_iff_ne.mpr (by omega)
  have e3 : decide (11 ≤ a0_0) = true := decide_eq_true (by omega)
  have e4 : decide (a0_0 ≤ 15) = false := decide_eq_false (by omega)
  have e5 : decide (19 ≤ a0_0) = true := decide_eq_true (by omega)
  have e6 : decide (a0_0 ≤ 24) = false := decide_eq_false (by omega)
  have e7 : decide (a0_0 ≤ 10) = false := decide_eq_false (by omega)
  have e8 : decide (a0_0 ≤ 18) = false := decide_eq_false (by omega)
  have e9 : decide (a0_0 ≤ 27) = true := decide_eq_true (by omega)
  have e10 : decide (a0_0 ≤ 45) = true := decide_eq_true (by omega)
  clear h0 h1
  have LL := Aside0.mk hl
  clear hl
  go_enter Tryd.func19, Tryd.ntmps19
  go_wp2_with (first | ((with_reducible refine gate_dst (N := 1) rfl ?_); refine box_event ?hg (N := 1) ?hd (cs := #[.int .i64 a0_0, .int .i64 a0_1, .int .i64 a0_2, .int .i64 a0_3, .int .i32 a0_4]) (t := 25) ?hr ?_; (case hd => rfl); (case hg => rfl); (case hr => first | (go_simp; done) | (go_simp; rfl)); intro gb212 hg w3 hbox hb; have n0_ := Aside0.mk (below_step (by repeat (first | (with_reducible first | exact HB.out | apply below_alloc | apply pw_below_drewN | apply below_drew1) | exact HB.out)) hb); have n1_ := Aside0.mk (hbox); have n2_ := Aside0.mk ((by rw [hg]; exact (below_size (by repeat (first | (with_reducible first | exact HB.out | apply below_alloc | apply pw_below_drewN | apply below_drew1) | exact HB.out))) : w.heap.size ≤ gb212)); have n3_ := Aside0.mk ((by rw [hg]; exact (below_size (by repeat (first | (with_reducible first | exact HB.out | apply below_alloc | apply pw_below_drewN | apply below_drew1) | exact HB.out))) : w.heap.size ≤ gb212)); clear HB; have HB := n0_; have BK212 := n1_; have GW212 := n2_; have GE212 := n3_; clear n0_ n1_ n2_ n3_; clear hb hbox hg; have hczw3_0 : w3.cell? ⟨gb212, 0, none⟩ = some (.int .i64 a0_0) := (blk_cell BK212.out 0).trans rfl; have hfzw3_0 := blk_frozen BK212.out 0; have hczw3_1 : w3.cell? ⟨gb212, 1, none⟩ = some (.int .i64 a0_1) := (blk_cell BK212.out 1).trans rfl; have hfzw3_1 := blk_frozen BK212.out 1; have hczw3_2 : w3.cell? ⟨gb212, 2, none⟩ = some (.int .i64 a0_2) := (blk_cell BK212.out 2).trans rfl; have hfzw3_2 := blk_frozen BK212.out 2; have hczw3_3 : w3.cell? ⟨gb212, 3, none⟩ = some (.int .i64 a0_3) := (blk_cell BK212.out 3).trans rfl; have hfzw3_3 := blk_frozen BK212.out 3; have hczw3_4 : w3.cell? ⟨gb212, 4, none⟩ = some (.int .i32 a0_4) := (blk_cell BK212.out 4).trans rfl; have hfzw3_4 := blk_frozen BK212.out 4) | (go_at_call 37; (with_reducible refine (tinctureref5_reg.calls a0_1 true _ R1.out).mono ?_); rintro e w' ⟨rfl, ⟨nd, rfl⟩⟩) | (go_at_call 37; (with_reducible refine (tinctureref5_reg.calls a0_2 true _ R2.out).mono ?_); rintro e w' ⟨rfl, ⟨nd, rfl⟩⟩) | (go_at_call 37; (with_reducible refine (tinctureref5_reg.calls a0_3 true _ R3.out).mono ?_); rintro e w' ⟨rfl, ⟨nd, rfl⟩⟩) | (go_at_call 29; (with_reducible refine (tinctureref5_form.calls a0_0 o f p _ FF.out).mono ?_); rintro e w22 ⟨rfl, hb⟩; have n0_ := Aside0.mk (blk_below (g := gb212) (o := .cells #[.int .i64 a0_0, .int .i64 a0_1, .int .i64 a0_2, .int .i64 a0_3, .int .i32 a0_4] 25 (0, 0)) (by (with_reducible repeat (first | refine blk_drewN ?_ _ | refine blk_drew ?_ | refine blk_alloc ?_ _)); exact BK212.out) hb); have n1_ := Aside0.mk (below_step (by repeat (first | (with_reducible first | exact HB.out | apply below_alloc | apply pw_below_drewN | apply below_drew1 | refine below_set ?_ GE212.out) | exact HB.out)) hb); clear BK212; clear HB; have BK212 := n0_; have HB := n1_; clear n0_ n1_; (try clear hb); have hczw22_0 : w22.cell? ⟨gb212, 0, none⟩ = some (.int .i64 a0_0) := (blk_cell BK212.out 0).trans rfl; have hfzw22_0 := blk_frozen BK212.out 0; have hczw22_1 : w22.cell? ⟨gb212, 1, none⟩ = some (.int .i64 a0_1) := (blk_cell BK212.out 1).trans rfl; have hfzw22_1 := blk_frozen BK212.out 1; have hczw22_2 : w22.cell? ⟨gb212, 2, none⟩ = some (.int .i64 a0_2) := (blk_cell BK212.out 2).trans rfl; have hfzw22_2 := blk_frozen BK212.out 2; have hczw22_3 : w22.cell? ⟨gb212, 3, none⟩ = some (.int .i64 a0_3) := (blk_cell BK212.out 3).trans rfl; have hfzw22_3 := blk_frozen BK212.out 3; have hczw22_4 : w22.cell? ⟨gb212, 4, none⟩ = some (.int .i32 a0_4) := (blk_cell BK212.out 4).trans rfl; have hfzw22_4 := blk_frozen BK212.out 4) | (go_at_call 38; (with_reducible refine (tinctureref5_low.calls a0_4 _ _ _ lo _ LL.out).mono ?_); rintro e w' ⟨rfl, ⟨nd, rfl⟩⟩))
  go_quiet (fail)
  go_wp2_with (first | (go_at_call 38; (with_reducible refine (tinctureref5_low.calls a0_4 _ _ _ lo _ LL.out).mono ?_); rintro e w' ⟨rfl, ⟨nd, rfl⟩⟩))
  go_ret2
  exact ⟨_, rfl, rfl, (by repeat (first | (with_reducible first | exact HB.out | apply below_alloc | apply pw_below_drewN | apply below_drew1 | refine below_set ?_ GE212.out) | exact HB.out))⟩
set_option maxHeartbeats 8000000 in
set_option maxRecDepth 100000 in
theorem enc_R0 (a0_0 a0_1 a0_2 a0_3 a0_4 : Int) (w : World) (o f p : Int) (hr1 : tinctureref5_reg.f a0_1 = some true) (hr2 : tinctureref5_reg.f a0_2 = some true) (hr3 : tinctureref5_reg.f a0_3 = some true) (hf : tinctureref5_form.f a0_0 = some (o, f, p)) (h0 : 28 ≤ a0_0) (h1 : a0_0 ≤ 45)  :
    Calls Tryd.prog 19 #[.agg #[.int .i64 a0_0, .int .i64 a0_1, .int .i64 a0_2, .int .i64 a0_3, .int .i32 a0_4]] w (Pair (a0_4 == 0) (fun x => x = (Go.bits .or .u32 (Go.bits .or .u32 (Go.bits .or .u32 (Go.bits .or .u32 (Go.bits .or .u32 o (f * 4096 % 4294967296)) (a0_1 % 4294967296 * 128 % 4294967296)) (a0_2 % 4294967296 * 32768 % 4294967296)) (a0_3 % 4294967296 * 1048576 % 4294967296)) (p * 33554432 % 4294967296))) w) := by
  have hu25 := Tryd.underlying25
  have HB := Aside0.mk (Below.refl w.heap.size w)
  have R1 := Aside0.mk hr1
  have R2 := Aside0.mk hr2
  have R3 := Aside0.mk hr3
  have FF := Aside0.mk hf
  clear hr1 hr2 hr3 hf
  have d0 : decide (a0_0 < 1) = false := decide_eq_false (by omega)
  have d1 : decide (49 < a0_0) = false := decide_eq_false (by omega)
  have e0 : decide (a0_0 ≤ 2) = false := decide_eq_false (by omega)
  have e1 : (a0_0 == 3) = false := beq_eq_false_iff_ne.mpr (by omega)
  have e2 : (a0_0 == 4) = false := beq_eq_false_iff_ne.mpr (by omega)
  have e3 : decide (11 ≤ a0_0) = true := decide_eq_true (by omega)
  have e4 : decide (a0_0 ≤ 15) = false := decide_eq_false (by omega)
  have e5 : decide (19 ≤ a0_0) = true := decide_eq_true (by omega)
  have e6 : decide (a0_0 ≤ 24) = false := decide_eq_false (by omega)
  have e7 : decide (a0_0 ≤ 10) = false := decide_eq_false (by omega)
  have e8 : decide (a0_0 ≤ 18) = false := decide_eq_false (by omega)
  have e9 : decide (a0_0 ≤ 27) = false := decide_eq_false (by omega)
  have e10 : decide (a0_0 ≤ 45) = true := decide_eq_true (by omega)
  clear h0 h1
  go_enter Tryd.func19, Tryd.ntmps19
  go_wp2_with (first | ((with_reducible refine gate_dst (N := 1) rfl ?_); refine box_event ?hg (N := 1) ?hd (cs := #[.int .i64 a0_0, .int .i64 a0_1, .int .i64 a0_2, .int .i64 a0_3, .int .i32 a0_4]) (t := 25) ?hr ?_; (case hd => rfl); (case hg => rfl); (case hr => first | (go_simp; done) | (go_simp; rfl)); intro gb212 hg w3 hbox hb; have n0_ := Aside0.mk (below_step (by repeat (first | (with_reducible first | exact HB.out | apply below_alloc | apply pw_below_drewN | apply below_drew1) | exact HB.out)) hb); have n1_ := Aside0.mk (hbox); have n2_ := Aside0.mk ((by rw [hg]; exact (below_size (by repeat (first | (with_reducible first | exact HB.out | apply below_alloc | apply pw_below_drewN | apply below_drew1) | exact HB.out))) : w.heap.size ≤ gb212)); have n3_ := Aside0.mk ((by rw [hg]; exact (below_size (by repeat (first | (with_reducible first | exact HB.out | apply below_alloc | apply pw_below_drewN | apply below_drew1) | exact HB.out))) : w.heap.size ≤ gb212)); clear HB; have HB := n0_; have BK212 := n1_; have GW212 := n2_; have GE212 := n3_; clear n0_ n1_ n2_ n3_; clear hb hbox hg; have hczw3_0 : w3.cell? ⟨gb212, 0, none⟩ = some (.int .i64 a0_0) := (blk_cell BK212.out 0).trans rfl; have hfzw3_0 := blk_frozen BK212.out 0; have hczw3_1 : w3.cell? ⟨gb212, 1, none⟩ = some (.int .i64 a0_1) := (blk_cell BK212.out 1).trans rfl; have hfzw3_1 := blk_frozen BK212.out 1; have hczw3_2 : w3.cell? ⟨gb212, 2, none⟩ = some (.int .i64 a0_2) := (blk_cell BK212.out 2).trans rfl; have hfzw3_2 := blk_frozen BK212.out 2; have hczw3_3 : w3.cell? ⟨gb212, 3, none⟩ = some (.int .i64 a0_3) := (blk_cell BK212.out 3).trans rfl; have hfzw3_3 := blk_frozen BK212.out 3; have hczw3_4 : w3.cell? ⟨gb212, 4, none⟩ = some (.int .i32 a0_4) := (blk_cell BK212.out 4).trans rfl; have hfzw3_4 := blk_frozen BK212.out 4) | (go_at_call 37; (with_reducible refine (tinctureref5_reg.calls a0_1 true _ R1.out).mono ?_); rintro e w' ⟨rfl, ⟨nd, rfl⟩⟩) | (go_at_call 37; (with_reducible refine (tinctureref5_reg.calls a0_2 true _ R2.out).mono ?_); rintro e w' ⟨rfl, ⟨nd, rfl⟩⟩) | (go_at_call 37; (with_reducible refine (tinctureref5_reg.calls a0_3 true _ R3.out).mono ?_); rintro e w' ⟨rfl, ⟨nd, rfl⟩⟩) | (go_at_call 29; (with_reducible refine (tinctureref5_form.calls a0_0 o f p _ FF.out).mono ?_); rintro e w22 ⟨rfl, hb⟩; have n0_ := Aside0.mk (blk_below (g := gb212) (o := .cells #[.int .i64 a0_0, .int .i64 a0_1, .int .i64 a0_2, .int .i64 a0_3, .int .i32 a0_4] 25 (0, 0)) (by (with_reducible repeat (first | refine blk_drewN ?_ _ | refine blk_drew ?_ | refine blk_alloc ?_ _)); exact BK212.out) hb); have n1_ := Aside0.mk (below_step (by repeat (first | (with_reducible first | exact HB.out | apply below_alloc | apply pw_below_drewN | apply below_drew1 | refine below_set ?_ GE212.out) | exact HB.out)) hb); clear BK212; clear HB; have BK212 := n0_; have HB := n1_; clear n0_ n1_; (try clear hb); have hczw22_0 : w22.cell? ⟨gb212, 0, none⟩ = some (.int .i64 a0_0) := (blk_cell BK212.out 0).trans rfl; have hfzw22_0 := blk_frozen BK212.out 0; have hczw22_1 : w22.cell? ⟨gb212, 1, none⟩ = some (.int .i64 a0_1) := (blk_cell BK212.out 1).trans rfl; have hfzw22_1 := blk_frozen BK212.out 1; have hczw22_2 : w22.cell? ⟨gb212, 2, none⟩ = some (.int .i64 a0_2) := (blk_cell BK212.out 2).trans rfl; have hfzw22_2 := blk_frozen BK212.out 2; have hczw22_3 : w22.cell? ⟨gb212, 3, none⟩ = some (.int .i64 a0_3) := (blk_cell BK212.out 3).trans rfl; have hfzw22_3 := blk_frozen BK212.out 3; have hczw22_4 : w22.cell? ⟨gb212, 4, none⟩ = some (.int .i32 a0_4) := (blk_cell BK212.out 4).trans rfl; have hfzw22_4 := blk_frozen BK212.out 4))
  go_quiet (fail)
  go_wp2
  go_quiet (fail)
  go_wp2
  go_ret2
  exact ⟨_, rfl, rfl, (by repeat (first | (with_reducible first | exact HB.out | apply below_alloc | apply pw_below_drewN | apply below_drew1 | refine below_set ?_ GE212.out) | exact HB.out))⟩
end Go.Proofs.YtmgbidehdnmjkaaDoor.Rv
