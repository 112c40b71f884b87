/- What nodes answers (its lines began as print.sh's). -/
import Derived.Test.YtefijnbhdjpfpaaDoorI0
namespace Go.Proofs.YtefijnbhdjpfpaaDoor.Ir
open Go.RowKit Go.Proofs.YtefijnbhdjpfpaaDoorW.PrintWords Go.Proofs.YtefijnbhdjpfpaaDoorW.PrintLast Go.Proofs.YtefijnbhdjpfpaaDoorW.PrintMore
attribute [local go_sem] max2_int min2_int max_two min_two max_three min_three max_four min_four   -- for this text's walks alone
set_option linter.unusedVariables false
set_option linter.unusedSimpArgs false
/-! ### tincturelaw19_nodes: function 12 -/
def tincturelaw19_nodes.l0 : Nat → List (S25) → List (S36) → Int → Option ((List (S36)))
  | 0, _, _, _ => none
  | k + 1, x0, x3, x4 => if x4 < (x0.length : Int) then (if 0 ≤ x4 then (if x3.length < 3518437208883 then (tincturelaw19_nodes.l0 k x0 (x3 ++ [(⟨(rd_T25 x0 x4).f0, (rd_T25 x0 x4).f1, (rd_T25 x0 x4).f2, (rd_T25 x0 x4).f3, (rd_T25 x0 x4).f4⟩ : S36)]) (wrap64 (x4 + 1))) else (none)) else (none)) else (some x3)
def tincturelaw19_nodes.f (k : Nat) (l0 : List (S25)) : Option ((List (S36))) := tincturelaw19_nodes.l0 k l0 ([] : List (S36)) 0
theorem tincturelaw19_nodes.mono_l : ∀ k, (∀ y0 y1 y2, LeO (tincturelaw19_nodes.l0 k y0 y1 y2) (tincturelaw19_nodes.l0 (k + 1) y0 y1 y2))
  | 0 => fun _ _ _ r h => by simp [tincturelaw19_nodes.l0] at h
  | k + 1 => by
    have ih0 := tincturelaw19_nodes.mono_l k
    · intro y0 y1 y2
      unfold tincturelaw19_nodes.l0
      repeat' first
      | (with_reducible exact ih0 _ _ _)
      | (with_reducible exact LeO.refl _)
      | (with_reducible exact LeO.none _)
      | (with_reducible refine LeO.ite ?_ ?_)
      | (with_reducible refine LeO.bind ?_ (fun _ => ?_))
      | exact ih0 _ _ _
      | exact LeO.none _
      | refine LeO.ite ?_ ?_
      | refine LeO.bind ?_ (fun _ => ?_)
theorem tincturelaw19_nodes.mono : ∀ a0 k, LeO (tincturelaw19_nodes.f k a0) (tincturelaw19_nodes.f (k + 1) a0) := by
  intro a0 k
  have ih0 := tincturelaw19_nodes.mono_l k
  unfold tincturelaw19_nodes.f
  repeat' first
      | (with_reducible exact ih0 _ _ _)
      | (with_reducible exact LeO.refl _)
      | (with_reducible exact LeO.none _)
      | (with_reducible refine LeO.ite ?_ ?_)
      | (with_reducible refine LeO.bind ?_ (fun _ => ?_))
      | exact ih0 _ _ _
      | exact LeO.none _
      | refine LeO.ite ?_ ?_
      | refine LeO.bind ?_ (fun _ => ?_)
set_option maxHeartbeats 8000000 in
set_option maxRecDepth 100000 in
theorem tincturelaw19_nodes.calls (k : Nat) (A0 : Option Addr) (c0 : Nat) (l0 : List (S25)) (r : List (S36)) (w : World) (hr0 : Kd.C k25 w A0 l0.length l0) (hc0 : l0.length ≤ c0) (h : tincturelaw19_nodes.f k l0 = some r) :
    Calls Tryd.prog 12 #[.slice A0 l0.length c0] w fun e w' => ∃ v0_ : Value, e = .returned (v0_) ∧ Kd.R k36 36 w' w.heap.size (fun _ => True) v0_ r ∧ Below w.heap.size w w' := by
  have hu25 := Tryd.underlying25
  have hu36 := Tryd.underlying36
  have HR0 := Aside0.mk hr0
  have HC0 := Aside0.mk hc0
  clear hr0 hc0
  have HB := Aside0.mk (Below.refl w.heap.size w)
  have H : (tincturelaw19_nodes.l0 k l0 ([] : List (S36)) 0) = some r := h
  clear h
  have H' := Aside0.mk H
  clear H
  go_enter Tryd.func12, Tryd.ntmps12
  go_wp2
  go_loopg [3, 4] k (fun kq v3 v4 w' => ∃ (x3_1 : List (S36)) (x4_1 : Int), v4 = .int .i64 x4_1 ∧ Aside0 (tincturelaw19_nodes.l0 kq l0 x3_1 x4_1 = some r) ∧ Aside0 (kq ≤ k) ∧ Aside0 (Kd.R k36 36 w' w.heap.size (fun _ => True) v3 x3_1) ∧ Aside0 (Below w.heap.size w w'))
  case atStart => exact ⟨(([] : List (S36))), (0), (by first | rfl | (simp; done) | (simp [*]; done)), H', ⟨Nat.le_refl _⟩, ⟨by first | exact Kd.R_nil _ _ _ _ _ | exact Kd.N_nil _ _ _ _ _ | exact Kd.V_nil _ _ _ _ _ | exact Kd.Q_nil _ _ _ _ _ | exact Kd.S_nil _ _ _ _ _⟩, ⟨by repeat (first | (with_reducible first | exact HB.out | apply below_alloc | apply pw_below_drewN | apply below_drew1) | exact HB.out)⟩⟩
  case round =>
    clear H'
    try clear c1
    obtain ⟨x3_1, x4_1, rfl, HA, HK1, HO_3, HB⟩ := hrel
    cases gk with
    | zero => exact absurd HA.out (by simp [tincturelaw19_nodes.l0])
    | succ k1 =>
      have H := HA.out
      clear HA
      simp only [tincturelaw19_nodes.l0] at H
      by_cases c2 : x4_1 < (l0.length : Int)
      · rw [if_pos c2] at H
        have c2b0 : decide (x4_1 < (l0.length : Int)) = true := decide_eq_true c2
        clear c2
        by_cases c3 : 0 ≤ x4_1
        · rw [if_pos c3] at H
          have c3b0 : decide (0 ≤ x4_1) = true := decide_eq_true c3
          clear c3
          by_cases c4 : x3_1.length < 3518437208883
          · rw [if_pos c4] at H
            have LMc4 := Aside0.mk c4
            clear c4
            obtain ⟨y160, hy160⟩ : ∃ y_ : List (S36), y_ = (x3_1 ++ [(⟨(rd_T25 l0 x4_1).f0, (rd_T25 l0 x4_1).f1, (rd_T25 l0 x4_1).f2, (rd_T25 l0 x4_1).f3, (rd_T25 l0 x4_1).f4⟩ : S36)]) := ⟨_, rfl⟩
            replace H : (tincturelaw19_nodes.l0 k1 l0 y160 (wrap64 (x4_1 + 1))) = some r := by first | (rw [hy160]; with_reducible exact H) | (have H2_ := (Option.bind_some _ _).symm.trans H; rw [hy160]; with_reducible exact H2_) | (have H2_ := (Option.bind_some _ _).symm.trans H; with_reducible exact H2_) | with_reducible exact H | (rw [hy160]; exact H) | exact H
            have Ny160 := Aside0.mk hy160
            clear hy160
            have H' := Aside0.mk H
            clear H
            have p158 : 0 ≤ (x4_1 : Int) := of_decide_eq_true (by first | (with_reducible assumption) | assumption)
            have q158 : x4_1 < (l0.length : Int) := of_decide_eq_true (by first | (with_reducible assumption) | assumption)
            obtain ⟨ad158, e158, hx158_0, hx158_1, hx158_2, hx158_3, hx158_4⟩ := at_T25 HR0.out x4_1 p158 q158
            cases e158
            replace hx158_0 := (HB.out.cell (World.block_lt_of_cell? w _ hx158_0)).trans hx158_0
            replace hx158_1 := (HB.out.cell (World.block_lt_of_cell? w _ hx158_1)).trans hx158_1
            replace hx158_2 := (HB.out.cell (World.block_lt_of_cell? w _ hx158_2)).trans hx158_2
            replace hx158_3 := (HB.out.cell (World.block_lt_of_cell? w _ hx158_3)).trans hx158_3
            replace hx158_4 := (HB.out.cell (World.block_lt_of_cell? w _ hx158_4)).trans hx158_4
            replace p158 := eq_true p158
            replace q158 := eq_true q158
            go_wp2_with (first | ((with_reducible refine gate_dst (N := 5) rfl ?_); refine box_event ?hg (N := 5) ?hd (cs := #[.int .i64 0, .int .i64 0, .int .i64 0, .int .i64 0, .int .u32 0]) (t := 25) ?hr ?_; (case hd => rfl); (case hg => rfl); (case hr => first | (go_simp; done) | (go_simp; rfl)); intro gb159 hg w5 hbox hb; have n0_ := Aside0.mk (Kd.R_below (by (with_reducible repeat (first | apply Kd.R_alloc | apply Kd.R_drewN | apply Kd.R_drew)); exact HO_3.out) hb); have n1_ := Aside0.mk (below_step (by repeat (first | (with_reducible first | exact HB.out | apply below_alloc | apply pw_below_drewN | apply below_drew1) | exact HB.out)) hb); have n2_ := Aside0.mk (hbox); have n3_ := Aside0.mk ((by rw [hg]; exact (below_size (by repeat (first | (with_reducible first | exact HB.out | apply below_alloc | apply pw_below_drewN | apply below_drew1) | exact HB.out))) : w.heap.size ≤ gb159)); have n4_ := Aside0.mk ((by rw [hg]; exact (below_size (by repeat (first | (with_reducible first | exact HB.out | apply below_alloc | apply pw_below_drewN | apply below_drew1) | exact HB.out))) : w.heap.size ≤ gb159)); clear HO_3; clear HB; have HO_3 := n0_; have HB := n1_; have BK159 := n2_; have GW159 := n3_; have GE159 := n4_; clear n0_ n1_ n2_ n3_ n4_; clear hb hbox hg; have hcz6_0 : w5.cell? ⟨gb159, 0, none⟩ = some (.int .i64 0) := (blk_cell BK159.out 0).trans rfl; have hcz6_1 : w5.cell? ⟨gb159, 1, none⟩ = some (.int .i64 0) := (blk_cell BK159.out 1).trans rfl; have hcz6_2 : w5.cell? ⟨gb159, 2, none⟩ = some (.int .i64 0) := (blk_cell BK159.out 2).trans rfl; have hcz6_3 : w5.cell? ⟨gb159, 3, none⟩ = some (.int .i64 0) := (blk_cell BK159.out 3).trans rfl; have hcz6_4 : w5.cell? ⟨gb159, 4, none⟩ = some (.int .u32 0) := (blk_cell BK159.out 4).trans rfl; have hfz6_0 := blk_frozen BK159.out 0; have hfz6_1 := blk_frozen BK159.out 1; have hfz6_2 := blk_frozen BK159.out 2; have hfz6_3 := blk_frozen BK159.out 3; have hfz6_4 := blk_frozen BK159.out 4) | ((with_reducible refine gate_builtin (b := .append) (xs := #[.tmp 16, .tmp 28]) rfl ?_); at_builtin; refine Kd.R_append k36 (w0 := w) w.heap.size rfl (.tmp 16) (.tmp 28) 32 36 (.agg #[(.int .i64 0), (.int .i64 0), (.int .i64 0), (.int .i64 0), (.int .u32 0)]) 40 rfl Tryd.underlying32 info36 rfl (by decide) (by omega) u3 x3_1 (⟨(rd_T25 l0 x4_1).f0, (rd_T25 l0 x4_1).f1, (rd_T25 l0 x4_1).f2, (rd_T25 l0 x4_1).f3, (rd_T25 l0 x4_1).f4⟩ : S36) [.int .i64 ((rd_T25 l0 x4_1).f0), .int .i64 ((rd_T25 l0 x4_1).f1), .int .i64 ((rd_T25 l0 x4_1).f2), .int .i64 ((rd_T25 l0 x4_1).f3), .int .u32 ((rd_T25 l0 x4_1).f4)] (fun _ => True) (fun _ => False) rfl (by first | (go_simp; done) | (go_simp; rfl)) ?aP (fun _ hk => hk.elim) ?aF ?aO ?aB ?aS ?aL ?_; (case aP => exact k36_mkM _ _ _ (⟨(rd_T25 l0 x4_1).f0, (rd_T25 l0 x4_1).f1, (rd_T25 l0 x4_1).f2, (rd_T25 l0 x4_1).f3, (rd_T25 l0 x4_1).f4⟩ : S36)); (case aB => exact (by repeat (first | (with_reducible first | exact HB.out | apply below_alloc | apply pw_below_drewN | apply below_drew1 | refine below_set ?_ GE159.out) | exact HB.out))); (case aF => exact (fun _ _ => trivial)); (case aO => exact (by (with_reducible repeat (first | apply Kd.R_alloc | apply Kd.R_drewN | apply Kd.R_drew)); exact Kd.R_mono (Kd.R_far (p := ⟨gb159, 4, none⟩) (Kd.R_far (p := ⟨gb159, 3, none⟩) (Kd.R_far (p := ⟨gb159, 2, none⟩) (Kd.R_far (p := ⟨gb159, 1, none⟩) (Kd.R_far (p := ⟨gb159, 0, none⟩) (Kd.R_types HO_3.out BK159.out (by decide)) (fun _ hk => hk.2) (.int .i64 ((rd_T25 l0 x4_1).f0))) (fun _ hk => hk.2) (.int .i64 ((rd_T25 l0 x4_1).f1))) (fun _ hk => hk.2) (.int .i64 ((rd_T25 l0 x4_1).f2))) (fun _ hk => hk.2) (.int .i64 ((rd_T25 l0 x4_1).f3))) (fun _ hk => hk.2) (.int .u32 ((rd_T25 l0 x4_1).f4))) (fun _ hk => trivial))); (case aS => exact (below_size (by repeat (first | (with_reducible first | exact HB.out | apply below_alloc | apply pw_below_drewN | apply below_drew1 | refine below_set ?_ GE159.out) | exact HB.out)))); (case aL => have := LMc4.out; omega); intro v161 w7 ho hb hg hat; rw [← Ny160.out] at ho; have n0_ := Aside0.mk (blk_grown (g := gb159) (o := .cells #[.int .i64 ((rd_T25 l0 x4_1).f0), .int .i64 ((rd_T25 l0 x4_1).f1), .int .i64 ((rd_T25 l0 x4_1).f2), .int .i64 ((rd_T25 l0 x4_1).f3), .int .u32 ((rd_T25 l0 x4_1).f4)] 25 (0, 0)) (by (with_reducible repeat (first | refine blk_drewN ?_ _ | refine blk_drew ?_ | refine blk_alloc ?_ _)); refine blk_put (cs := #[.int .i64 ((rd_T25 l0 x4_1).f0), .int .i64 ((rd_T25 l0 x4_1).f1), .int .i64 ((rd_T25 l0 x4_1).f2), .int .i64 ((rd_T25 l0 x4_1).f3), .int .u32 0]) ?_ 4 _ rfl; (with_reducible repeat (first | refine blk_drewN ?_ _ | refine blk_drew ?_ | refine blk_alloc ?_ _)); refine blk_put (cs := #[.int .i64 ((rd_T25 l0 x4_1).f0), .int .i64 ((rd_T25 l0 x4_1).f1), .int .i64 ((rd_T25 l0 x4_1).f2), .int .i64 0, .int .u32 0]) ?_ 3 _ rfl; (with_reducible repeat (first | refine blk_drewN ?_ _ | refine blk_drew ?_ | refine blk_alloc ?_ _)); refine blk_put (cs := #[.int .i64 ((rd_T25 l0 x4_1).f0), .int .i64 ((rd_T25 l0 x4_1).f1), .int .i64 0, .int .i64 0, .int .u32 0]) ?_ 2 _ rfl; (with_reducible repeat (first | refine blk_drewN ?_ _ | refine blk_drew ?_ | refine blk_alloc ?_ _)); refine blk_put (cs := #[.int .i64 ((rd_T25 l0 x4_1).f0), .int .i64 0, .int .i64 0, .int .i64 0, .int .u32 0]) ?_ 1 _ rfl; (with_reducible repeat (first | refine blk_drewN ?_ _ | refine blk_drew ?_ | refine blk_alloc ?_ _)); refine blk_put (cs := #[.int .i64 0, .int .i64 0, .int .i64 0, .int .i64 0, .int .u32 0]) ?_ 0 _ rfl; (with_reducible repeat (first | refine blk_drewN ?_ _ | refine blk_drew ?_ | refine blk_alloc ?_ _)); exact BK159.out) hg (Kd.R_ne HO_3.out BK159.out (by decide))); have n1_ := Aside0.mk (hb); have n2_ := Aside0.mk (ho); clear BK159; clear HB; clear HO_3; have BK159 := n0_; have HB := n1_; have HO162 := n2_; clear n0_ n1_ n2_; clear ho hb hg hat))
            go_roundg k1
            case measure => have := HK1.out; omega
            case rel => exact ⟨(y160), (wrap64 (x4_1 + 1)), (by first | rfl | (simp; done) | (simp [*]; done)), H', ⟨by have := HK1.out; omega⟩, ⟨by (with_reducible repeat (first | apply Kd.R_alloc | apply Kd.R_drewN | apply Kd.R_drew)); exact HO162.out⟩, ⟨by repeat (first | (with_reducible first | exact HB.out | apply below_alloc | apply pw_below_drewN | apply below_drew1 | refine below_set ?_ GE159.out) | exact HB.out)⟩⟩
          · rw [if_neg c4] at H
            exact absurd H (by simp)
        · rw [if_neg c3] at H
          exact absurd H (by simp)
      · rw [if_neg c2] at H
        have c2b0 : decide (x4_1 < (l0.length : Int)) = false := decide_eq_false c2
        clear c2
        obtain rfl := Option.some.inj H
        go_wp2
        go_ret
        exact ⟨_, by first | rfl | (simp [errW_none, errW_some] <;> rfl) | (simp [*, errW_none, errW_some] <;> rfl), by (with_reducible repeat (first | apply Kd.R_alloc | apply Kd.R_drewN | apply Kd.R_drew)); exact HO_3.out, by repeat (first | (with_reducible first | exact HB.out | apply below_alloc | apply pw_below_drewN | apply below_drew1) | exact HB.out)⟩
end Go.Proofs.YtefijnbhdjpfpaaDoor.Ir
