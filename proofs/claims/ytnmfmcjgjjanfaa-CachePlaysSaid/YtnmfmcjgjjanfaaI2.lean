/- What nodes, equal, the reference's at and Len answer (its lines began as print.sh's). -/
import Derived.Test.YtnmfmcjgjjanfaaI0
import Derived.Test.YtnmfmcjgjjanfaaI1
namespace Go.Proofs.Ytnmfmcjgjjanfaa.Pr
open Go.RowKit Go.Proofs.YtnmfmcjgjjanfaaW.PrintWords Go.Proofs.YtnmfmcjgjjanfaaW.PrintLast Go.Proofs.YtnmfmcjgjjanfaaW.PrintMore
attribute [local go_sem] max2_int min2_int max_two min_two max_three min_three max_four min_four   -- for this text's walks alone
set_option linter.unusedVariables false
set_option linter.unusedSimpArgs false
attribute [local go_sem high] eqA83
/-! ### tincturelaw25_nodes: function 13 -/
def tincturelaw25_nodes.l0 : Nat → List (S25) → List (S83) → Int → Option ((List (S83)))
  | 0, _, _, _ => none
  | k + 1, x0, x3, x4 => if x4 < (x0.length : Int) then (if 0 ≤ x4 then (if x3.length < 3518437208883 then (tincturelaw25_nodes.l0 k x0 (x3 ++ [(⟨(rd_T25 x0 x4).f0, (rd_T25 x0 x4).f1, (rd_T25 x0 x4).f2, (rd_T25 x0 x4).f3, (rd_T25 x0 x4).f4⟩ : S83)]) (wrap64 (x4 + 1))) else (none)) else (none)) else (some x3)
def tincturelaw25_nodes.f (k : Nat) (l0 : List (S25)) : Option ((List (S83))) := tincturelaw25_nodes.l0 k l0 ([] : List (S83)) 0
theorem tincturelaw25_nodes.mono_l : ∀ k, (∀ y0 y1 y2, LeO (tincturelaw25_nodes.l0 k y0 y1 y2) (tincturelaw25_nodes.l0 (k + 1) y0 y1 y2))
  | 0 => fun _ _ _ r h => by simp [tincturelaw25_nodes.l0] at h
  | k + 1 => by
    have ih0 := tincturelaw25_nodes.mono_l k
    · intro y0 y1 y2
      unfold tincturelaw25_nodes.l0
      repeat' first
      | (with_reducible exact ih0 _ _ _)
      | (with_reducible exact LeO.refl _)
      | (with_reducible exact LeO.none _)
      | (with_reducible refine LeO.ite ?_ ?_)
      | (with_reducible refine LeO.bind ?_ (fun _ => ?_))
      | exact ih0 _ _ _
      | exact LeO.none _
      | refine LeO.ite ?_ ?_
      | refine LeO.bind ?_ (fun _ => ?_)
theorem tincturelaw25_nodes.mono : ∀ a0 k, LeO (tincturelaw25_nodes.f k a0) (tincturelaw25_nodes.f (k + 1) a0) := by
  intro a0 k
  have ih0 := tincturelaw25_nodes.mono_l k
  unfold tincturelaw25_nodes.f
  repeat' first
      | (with_reducible exact ih0 _ _ _)
      | (with_reducible exact LeO.refl _)
      | (with_reducible exact LeO.none _)
      | (with_reducible refine LeO.ite ?_ ?_)
      | (with_reducible refine LeO.bind ?_ (fun _ => ?_))
      | exact ih0 _ _ _
      | exact LeO.none _
      | refine LeO.ite ?_ ?_
      | refine LeO.bind ?_ (fun _ => ?_)
set_option maxHeartbeats 8000000 in
set_option maxRecDepth 100000 in
theorem tincturelaw25_nodes.calls (k : Nat) (A0 : Option Addr) (c0 : Nat) (l0 : List (S25)) (r : List (S83)) (w : World) (hr0 : Kd.C k25 w A0 l0.length l0) (hc0 : l0.length ≤ c0) (h : tincturelaw25_nodes.f k l0 = some r) :
    Calls Try.prog 13 #[.slice A0 l0.length c0] w fun e w' => ∃ v0_ : Value, e = .returned (v0_) ∧ Kd.R k83 83 w' w.heap.size (fun _ => True) v0_ r ∧ Below w.heap.size w w' := by
  have hu25 := Try.underlying25
  have hu83 := Try.underlying83
  have HR0 := Aside0.mk hr0
  have HC0 := Aside0.mk hc0
  clear hr0 hc0
  have HB := Aside0.mk (Below.refl w.heap.size w)
  have H : (tincturelaw25_nodes.l0 k l0 ([] : List (S83)) 0) = some r := h
  clear h
  have H' := Aside0.mk H
  clear H
  go_enter Try.func13, Try.ntmps13
  go_wp2
  go_loopg [3, 4] k (fun kq v3 v4 w' => ∃ (x3_1 : List (S83)) (x4_1 : Int), v4 = .int .i64 x4_1 ∧ Aside0 (tincturelaw25_nodes.l0 kq l0 x3_1 x4_1 = some r) ∧ Aside0 (kq ≤ k) ∧ Aside0 (Kd.R k83 83 w' w.heap.size (fun _ => True) v3 x3_1) ∧ Aside0 (Below w.heap.size w w'))
  case atStart => exact ⟨(([] : List (S83))), (0), (by first | rfl | (simp; done) | (simp [*]; done)), H', ⟨Nat.le_refl _⟩, ⟨by first | exact Kd.R_nil _ _ _ _ _ | exact Kd.N_nil _ _ _ _ _ | exact Kd.V_nil _ _ _ _ _ | exact Kd.Q_nil _ _ _ _ _ | exact Kd.S_nil _ _ _ _ _⟩, ⟨by repeat (first | (with_reducible first | exact HB.out | apply below_alloc | apply pw_below_drewN | apply below_drew1) | exact HB.out)⟩⟩
  case round =>
    clear H'
    try clear c1
    obtain ⟨x3_1, x4_1, rfl, HA, HK1, HO_3, HB⟩ := hrel
    cases gk with
    | zero => exact absurd HA.out (by simp [tincturelaw25_nodes.l0])
    | succ k1 =>
      have H := HA.out
      clear HA
      simp only [tincturelaw25_nodes.l0] at H
      by_cases c2 : x4_1 < (l0.length : Int)
      · rw [if_pos c2] at H
        have c2b0 : decide (x4_1 < (l0.length : Int)) = true := decide_eq_true c2
        clear c2
        by_cases c3 : 0 ≤ x4_1
        · rw [if_pos c3] at H
          have c3b0 : decide (0 ≤ x4_1) = true := decide_eq_true c3
          clear c3
          by_cases c4 : x3_1.length < 3518437208883
          · rw [if_pos c4] at H
            have LMc4 := Aside0.mk c4
            clear c4
            obtain ⟨y103, hy103⟩ : ∃ y_ : List (S83), y_ = (x3_1 ++ [(⟨(rd_T25 l0 x4_1).f0, (rd_T25 l0 x4_1).f1, (rd_T25 l0 x4_1).f2, (rd_T25 l0 x4_1).f3, (rd_T25 l0 x4_1).f4⟩ : S83)]) := ⟨_, rfl⟩
            replace H : (tincturelaw25_nodes.l0 k1 l0 y103 (wrap64 (x4_1 + 1))) = some r := by first | (rw [hy103]; with_reducible exact H) | (have H2_ := (Option.bind_some _ _).symm.trans H; rw [hy103]; with_reducible exact H2_) | (have H2_ := (Option.bind_some _ _).symm.trans H; with_reducible exact H2_) | with_reducible exact H | (rw [hy103]; exact H) | exact H
            have Ny103 := Aside0.mk hy103
            clear hy103
            have H' := Aside0.mk H
            clear H
            have p101 : 0 ≤ (x4_1 : Int) := of_decide_eq_true (by first | (with_reducible assumption) | assumption)
            have q101 : x4_1 < (l0.length : Int) := of_decide_eq_true (by first | (with_reducible assumption) | assumption)
            obtain ⟨ad101, e101, hx101_0, hx101_1, hx101_2, hx101_3, hx101_4⟩ := at_T25 HR0.out x4_1 p101 q101
            cases e101
            replace hx101_0 := (HB.out.cell (World.block_lt_of_cell? w _ hx101_0)).trans hx101_0
            replace hx101_1 := (HB.out.cell (World.block_lt_of_cell? w _ hx101_1)).trans hx101_1
            replace hx101_2 := (HB.out.cell (World.block_lt_of_cell? w _ hx101_2)).trans hx101_2
            replace hx101_3 := (HB.out.cell (World.block_lt_of_cell? w _ hx101_3)).trans hx101_3
            replace hx101_4 := (HB.out.cell (World.block_lt_of_cell? w _ hx101_4)).trans hx101_4
            replace p101 := eq_true p101
            replace q101 := eq_true q101
            go_wp2_with (first | ((with_reducible refine gate_dst (N := 5) rfl ?_); refine box_event ?hg (N := 5) ?hd (cs := #[.int .i64 0, .int .i64 0, .int .i64 0, .int .i64 0, .int .u32 0]) (t := 25) ?hr ?_; (case hd => rfl); (case hg => rfl); (case hr => first | (go_simp; done) | (go_simp; rfl)); intro gb102 hg w5 hbox hb; have n0_ := Aside0.mk (Kd.R_below (by (with_reducible repeat (first | apply Kd.R_alloc | apply Kd.R_drewN | apply Kd.R_drew)); exact HO_3.out) hb); have n1_ := Aside0.mk (below_step (by repeat (first | (with_reducible first | exact HB.out | apply below_alloc | apply pw_below_drewN | apply below_drew1) | exact HB.out)) hb); have n2_ := Aside0.mk (hbox); have n3_ := Aside0.mk ((by rw [hg]; exact (below_size (by repeat (first | (with_reducible first | exact HB.out | apply below_alloc | apply pw_below_drewN | apply below_drew1) | exact HB.out))) : w.heap.size ≤ gb102)); have n4_ := Aside0.mk ((by rw [hg]; exact (below_size (by repeat (first | (with_reducible first | exact HB.out | apply below_alloc | apply pw_below_drewN | apply below_drew1) | exact HB.out))) : w.heap.size ≤ gb102)); clear HO_3; clear HB; have HO_3 := n0_; have HB := n1_; have BK102 := n2_; have GW102 := n3_; have GE102 := n4_; clear n0_ n1_ n2_ n3_ n4_; clear hb hbox hg; have hcz6_0 : w5.cell? ⟨gb102, 0, none⟩ = some (.int .i64 0) := (blk_cell BK102.out 0).trans rfl; have hcz6_1 : w5.cell? ⟨gb102, 1, none⟩ = some (.int .i64 0) := (blk_cell BK102.out 1).trans rfl; have hcz6_2 : w5.cell? ⟨gb102, 2, none⟩ = some (.int .i64 0) := (blk_cell BK102.out 2).trans rfl; have hcz6_3 : w5.cell? ⟨gb102, 3, none⟩ = some (.int .i64 0) := (blk_cell BK102.out 3).trans rfl; have hcz6_4 : w5.cell? ⟨gb102, 4, none⟩ = some (.int .u32 0) := (blk_cell BK102.out 4).trans rfl; have hfz6_0 := blk_frozen BK102.out 0; have hfz6_1 := blk_frozen BK102.out 1; have hfz6_2 := blk_frozen BK102.out 2; have hfz6_3 := blk_frozen BK102.out 3; have hfz6_4 := blk_frozen BK102.out 4) | ((with_reducible refine gate_builtin (b := .append) (xs := #[.tmp 16, .tmp 28]) rfl ?_); at_builtin; refine Kd.R_append k83 (w0 := w) w.heap.size rfl (.tmp 16) (.tmp 28) 35 83 (.agg #[(.int .i64 0), (.int .i64 0), (.int .i64 0), (.int .i64 0), (.int .u32 0)]) 40 rfl Try.underlying35 info83 rfl (by decide) (by omega) u3 x3_1 (⟨(rd_T25 l0 x4_1).f0, (rd_T25 l0 x4_1).f1, (rd_T25 l0 x4_1).f2, (rd_T25 l0 x4_1).f3, (rd_T25 l0 x4_1).f4⟩ : S83) [.int .i64 ((rd_T25 l0 x4_1).f0), .int .i64 ((rd_T25 l0 x4_1).f1), .int .i64 ((rd_T25 l0 x4_1).f2), .int .i64 ((rd_T25 l0 x4_1).f3), .int .u32 ((rd_T25 l0 x4_1).f4)] (fun _ => True) (fun _ => False) rfl (by first | (go_simp; done) | (go_simp; rfl)) ?aP (fun _ hk => hk.elim) ?aF ?aO ?aB ?aS ?aL ?_; (case aP => exact k83_mkM _ _ _ (⟨(rd_T25 l0 x4_1).f0, (rd_T25 l0 x4_1).f1, (rd_T25 l0 x4_1).f2, (rd_T25 l0 x4_1).f3, (rd_T25 l0 x4_1).f4⟩ : S83)); (case aB => exact (by repeat (first | (with_reducible first | exact HB.out | apply below_alloc | apply pw_below_drewN | apply below_drew1 | refine below_set ?_ GE102.out) | exact HB.out))); (case aF => exact (fun _ _ => trivial)); (case aO => exact (by (with_reducible repeat (first | apply Kd.R_alloc | apply Kd.R_drewN | apply Kd.R_drew)); exact Kd.R_mono (Kd.R_far (p := ⟨gb102, 4, none⟩) (Kd.R_far (p := ⟨gb102, 3, none⟩) (Kd.R_far (p := ⟨gb102, 2, none⟩) (Kd.R_far (p := ⟨gb102, 1, none⟩) (Kd.R_far (p := ⟨gb102, 0, none⟩) (Kd.R_types HO_3.out BK102.out (by decide)) (fun _ hk => hk.2) (.int .i64 ((rd_T25 l0 x4_1).f0))) (fun _ hk => hk.2) (.int .i64 ((rd_T25 l0 x4_1).f1))) (fun _ hk => hk.2) (.int .i64 ((rd_T25 l0 x4_1).f2))) (fun _ hk => hk.2) (.int .i64 ((rd_T25 l0 x4_1).f3))) (fun _ hk => hk.2) (.int .u32 ((rd_T25 l0 x4_1).f4))) (fun _ hk => trivial))); (case aS => exact (below_size (by repeat (first | (with_reducible first | exact HB.out | apply below_alloc | apply pw_below_drewN | apply below_drew1 | refine below_set ?_ GE102.out) | exact HB.out)))); (case aL => have := LMc4.out; omega); intro v104 w7 ho hb hg hat; rw [← Ny103.out] at ho; have n0_ := Aside0.mk (blk_grown (g := gb102) (o := .cells #[.int .i64 ((rd_T25 l0 x4_1).f0), .int .i64 ((rd_T25 l0 x4_1).f1), .int .i64 ((rd_T25 l0 x4_1).f2), .int .i64 ((rd_T25 l0 x4_1).f3), .int .u32 ((rd_T25 l0 x4_1).f4)] 25 (0, 0)) (by (with_reducible repeat (first | refine blk_drewN ?_ _ | refine blk_drew ?_ | refine blk_alloc ?_ _)); refine blk_put (cs := #[.int .i64 ((rd_T25 l0 x4_1).f0), .int .i64 ((rd_T25 l0 x4_1).f1), .int .i64 ((rd_T25 l0 x4_1).f2), .int .i64 ((rd_T25 l0 x4_1).f3), .int .u32 0]) ?_ 4 _ rfl; (with_reducible repeat (first | refine blk_drewN ?_ _ | refine blk_drew ?_ | refine blk_alloc ?_ _)); refine blk_put (cs := #[.int .i64 ((rd_T25 l0 x4_1).f0), .int .i64 ((rd_T25 l0 x4_1).f1), .int .i64 ((rd_T25 l0 x4_1).f2), .int .i64 0, .int .u32 0]) ?_ 3 _ rfl; (with_reducible repeat (first | refine blk_drewN ?_ _ | refine blk_drew ?_ | refine blk_alloc ?_ _)); refine blk_put (cs := #[.int .i64 ((rd_T25 l0 x4_1).f0), .int .i64 ((rd_T25 l0 x4_1).f1), .int .i64 0, .int .i64 0, .int .u32 0]) ?_ 2 _ rfl; (with_reducible repeat (first | refine blk_drewN ?_ _ | refine blk_drew ?_ | refine blk_alloc ?_ _)); refine blk_put (cs := #[.int .i64 ((rd_T25 l0 x4_1).f0), .int .i64 0, .int .i64 0, .int .i64 0, .int .u32 0]) ?_ 1 _ rfl; (with_reducible repeat (first | refine blk_drewN ?_ _ | refine blk_drew ?_ | refine blk_alloc ?_ _)); refine blk_put (cs := #[.int .i64 0, .int .i64 0, .int .i64 0, .int .i64 0, .int .u32 0]) ?_ 0 _ rfl; (with_reducible repeat (first | refine blk_drewN ?_ _ | refine blk_drew ?_ | refine blk_alloc ?_ _)); exact BK102.out) hg (Kd.R_ne HO_3.out BK102.out (by decide))); have n1_ := Aside0.mk (hb); have n2_ := Aside0.mk (ho); clear BK102; clear HB; clear HO_3; have BK102 := n0_; have HB := n1_; have HO105 := n2_; clear n0_ n1_ n2_; clear ho hb hg hat))
            go_roundg k1
            case measure => have := HK1.out; omega
            case rel => exact ⟨(y103), (wrap64 (x4_1 + 1)), (by first | rfl | (simp; done) | (simp [*]; done)), H', ⟨by have := HK1.out; omega⟩, ⟨by (with_reducible repeat (first | apply Kd.R_alloc | apply Kd.R_drewN | apply Kd.R_drew)); exact HO105.out⟩, ⟨by repeat (first | (with_reducible first | exact HB.out | apply below_alloc | apply pw_below_drewN | apply below_drew1 | refine below_set ?_ GE102.out) | exact HB.out)⟩⟩
          · rw [if_neg c4] at H
            exact absurd H (by simp)
        · rw [if_neg c3] at H
          exact absurd H (by simp)
      · rw [if_neg c2] at H
        have c2b0 : decide (x4_1 < (l0.length : Int)) = false := decide_eq_false c2
        clear c2
        obtain rfl := Option.some.inj H
        go_wp2
        go_ret
        exact ⟨_, by first | rfl | (simp [errW_none, errW_some] <;> rfl) | (simp [*, errW_none, errW_some] <;> rfl), by (with_reducible repeat (first | apply Kd.R_alloc | apply Kd.R_drewN | apply Kd.R_drew)); exact HO_3.out, by repeat (first | (with_reducible first | exact HB.out | apply below_alloc | apply pw_below_drewN | apply below_drew1) | exact HB.out)⟩
/-! ### tincturelaw25_equal: function 12 -/
def tincturelaw25_equal.l0 : Nat → List (S83) → List (S83) → Int → Option (Bool)
  | 0, _, _, _ => none
  | k + 1, x1, x5, x6 => if x6 < (x5.length : Int) then (if 0 ≤ x6 then (if x6 < (x1.length : Int) then (if (!(((rd_T83 x5 x6).f0) == ((rd_T83 x1 x6).f0)) || (!(((rd_T83 x5 x6).f1) == ((rd_T83 x1 x6).f1)) || (!(((rd_T83 x5 x6).f2) == ((rd_T83 x1 x6).f2)) || (!(((rd_T83 x5 x6).f3) == ((rd_T83 x1 x6).f3)) || (!(((rd_T83 x5 x6).f4) == ((rd_T83 x1 x6).f4))))))) = true then (some false) else (tincturelaw25_equal.l0 k x1 x5 (wrap64 (x6 + 1)))) else (none)) else (none)) else (some true)
def tincturelaw25_equal.f (k : Nat) (l0 : List (S25)) (l1 : List (S83)) : Option (Bool) := (tincturelaw25_nodes.f k l0).bind fun t106 => (if (t106.length : Int) = (l1.length : Int) then (tincturelaw25_equal.l0 k l1 t106 0) else (some false))
theorem tincturelaw25_equal.mono_l : ∀ k, (∀ y0 y1 y2, LeO (tincturelaw25_equal.l0 k y0 y1 y2) (tincturelaw25_equal.l0 (k + 1) y0 y1 y2))
  | 0 => fun _ _ _ r h => by simp [tincturelaw25_equal.l0] at h
  | k + 1 => by
    have ih0 := tincturelaw25_equal.mono_l k
    · intro y0 y1 y2
      unfold tincturelaw25_equal.l0
      repeat' first
      | (with_reducible exact ih0 _ _ _)
      | (with_reducible exact tincturelaw25_nodes.mono _ _)
      | (with_reducible exact LeO.refl _)
      | (with_reducible exact LeO.none _)
      | (with_reducible refine LeO.ite ?_ ?_)
      | (with_reducible refine LeO.bind ?_ (fun _ => ?_))
      | exact ih0 _ _ _
      | exact tincturelaw25_nodes.mono _ _
      | exact LeO.none _
      | refine LeO.ite ?_ ?_
      | refine LeO.bind ?_ (fun _ => ?_)
theorem tincturelaw25_equal.mono : ∀ a0 a1 k, LeO (tincturelaw25_equal.f k a0 a1) (tincturelaw25_equal.f (k + 1) a0 a1) := by
  intro a0 a1 k
  have ih0 := tincturelaw25_equal.mono_l k
  unfold tincturelaw25_equal.f
  repeat' first
      | (with_reducible exact ih0 _ _ _)
      | (with_reducible exact tincturelaw25_nodes.mono _ _)
      | (with_reducible exact LeO.refl _)
      | (with_reducible exact LeO.none _)
      | (with_reducible refine LeO.ite ?_ ?_)
      | (with_reducible refine LeO.bind ?_ (fun _ => ?_))
      | exact ih0 _ _ _
      | exact tincturelaw25_nodes.mono _ _
      | exact LeO.none _
      | refine LeO.ite ?_ ?_
      | refine LeO.bind ?_ (fun _ => ?_)
set_option maxHeartbeats 8000000 in
set_option maxRecDepth 100000 in
theorem tincturelaw25_equal.calls (k : Nat) (A0 : Option Addr) (c0 : Nat) (l0 : List (S25)) (A1 : Option Addr) (c1 : Nat) (l1 : List (S83)) (r : Bool) (w : World) (hr0 : Kd.C k25 w A0 l0.length l0) (hc0 : l0.length ≤ c0) (hr1 : Kd.C k83 w A1 l1.length l1) (hc1 : l1.length ≤ c1) (h : tincturelaw25_equal.f k l0 l1 = some r) :
    Calls Try.prog 12 #[.slice A0 l0.length c0, .slice A1 l1.length c1] w fun e w' => e = .returned (.bool r) ∧ Below w.heap.size w w' := by
  have hu83 := Try.underlying83
  have HR0 := Aside0.mk hr0
  have HC0 := Aside0.mk hc0
  clear hr0 hc0
  have HR1 := Aside0.mk hr1
  have HC1 := Aside0.mk hc1
  clear hr1 hc1
  have HB := Aside0.mk (Below.refl w.heap.size w)
  have H : ((tincturelaw25_nodes.f k l0).bind fun t106 => (if (t106.length : Int) = (l1.length : Int) then (tincturelaw25_equal.l0 k l1 t106 0) else (some false))) = some r := h
  clear h
  replace H := Option.bind_eq_some_iff.mp H
  obtain ⟨t106, A30, H⟩ := H
  replace H : (if (t106.length : Int) = (l1.length : Int) then (tincturelaw25_equal.l0 k l1 t106 0) else (some false)) = some r := H
  have A3 := Aside0.mk A30
  clear A30
  by_cases c4 : (t106.length : Int) = (l1.length : Int)
  · rw [if_pos c4] at H
    have c4b0 : ((t106.length : Int) == (l1.length : Int)) = true := beq_iff_eq.mpr c4
    have c4b1 : ((t106.length : Int) != (l1.length : Int)) = false := bne_eq_false_iff_eq.mpr c4
    have c4b2 : (t106.length == l1.length) = true := by first | simpa using c4 | (simp at c4 ⊢; omega)
    clear c4
    have H' := Aside0.mk H
    clear H
    go_enter Try.func12, Try.ntmps12
    go_wp2_with (first | (go_at_call 13; (with_reducible refine (tincturelaw25_nodes.calls k _ _ l0 t106 _ ?side1 ?side2 A3.out).mono ?_); (case side1 => repeat (first | exact HR0.out | (with_reducible refine Kd.C_alloc ?_ _) | (with_reducible refine Kd.C_drewN ?_ _) | (with_reducible refine Kd.C_drew ?_))); (case side2 => exact HC0.out); rintro e w5 ⟨v107, rfl, ho0, hb⟩; have n0_ := Aside0.mk (Kd.R_lower ho0 (below_size (by repeat (first | (with_reducible first | exact HB.out | apply below_alloc | apply pw_below_drewN | apply below_drew1) | exact HB.out)))); have n1_ := Aside0.mk (below_step (by repeat (first | (with_reducible first | exact HB.out | apply below_alloc | apply pw_below_drewN | apply below_drew1) | exact HB.out)) hb); clear HB; have HO108 := n0_; have HB := n1_; clear n0_ n1_; (try clear hb); (try clear hb2); (try clear hk); (try clear hi); (try clear ho0); obtain ⟨Ao6, co6, eo6⟩ := Kd.R_slice HO108.out; subst eo6))
    repeat (go_quiet (first | (go_at_call 13; (with_reducible refine (tincturelaw25_nodes.calls k _ _ l0 t106 _ ?side1 ?side2 A3.out).mono ?_); (case side1 => repeat (first | exact HR0.out | (with_reducible refine Kd.C_alloc ?_ _) | (with_reducible refine Kd.C_drewN ?_ _) | (with_reducible refine Kd.C_drew ?_))); (case side2 => exact HC0.out); rintro e w5 ⟨v107, rfl, ho0, hb⟩; have n0_ := Aside0.mk (Kd.R_lower ho0 (below_size (by repeat (first | (with_reducible first | exact HB.out | apply below_alloc | apply pw_below_drewN | apply below_drew1) | exact HB.out)))); have n1_ := Aside0.mk (below_step (by repeat (first | (with_reducible first | exact HB.out | apply below_alloc | apply pw_below_drewN | apply below_drew1) | exact HB.out)) hb); clear HB; have HO108 := n0_; have HB := n1_; clear n0_ n1_; (try clear hb); (try clear hb2); (try clear hk); (try clear hi); (try clear ho0); obtain ⟨Ao6, co6, eo6⟩ := Kd.R_slice HO108.out; subst eo6)); try go_wp2_with (first | (go_at_call 13; (with_reducible refine (tincturelaw25_nodes.calls k _ _ l0 t106 _ ?side1 ?side2 A3.out).mono ?_); (case side1 => repeat (first | exact HR0.out | (with_reducible refine Kd.C_alloc ?_ _) | (with_reducible refine Kd.C_drewN ?_ _) | (with_reducible refine Kd.C_drew ?_))); (case side2 => exact HC0.out); rintro e w5 ⟨v107, rfl, ho0, hb⟩; have n0_ := Aside0.mk (Kd.R_lower ho0 (below_size (by repeat (first | (with_reducible first | exact HB.out | apply below_alloc | apply pw_below_drewN | apply below_drew1) | exact HB.out)))); have n1_ := Aside0.mk (below_step (by repeat (first | (with_reducible first | exact HB.out | apply below_alloc | apply pw_below_drewN | apply below_drew1) | exact HB.out)) hb); clear HB; have HO108 := n0_; have HB := n1_; clear n0_ n1_; (try clear hb); (try clear hb2); (try clear hk); (try clear hi); (try clear ho0); obtain ⟨Ao6, co6, eo6⟩ := Kd.R_slice HO108.out; subst eo6)))
    go_loopg [6] k (fun kq v6 w' => ∃ (x6_1 : Int), v6 = .int .i64 x6_1 ∧ Aside0 (tincturelaw25_equal.l0 kq l1 t106 x6_1 = some r) ∧ Aside0 (kq ≤ k) ∧ Aside0 (Kd.R k83 83 w' w.heap.size (fun _ => True) (.slice Ao6 t106.length co6) t106) ∧ Aside0 (Below w.heap.size w w'))
    case atStart => exact ⟨(0), (by first | rfl | (simp; done) | (simp [*]; done)), H', ⟨Nat.le_refl _⟩, ⟨by (with_reducible repeat (first | apply Kd.R_alloc | apply Kd.R_drewN | apply Kd.R_drew)); exact HO108.out⟩, ⟨by repeat (first | (with_reducible first | exact HB.out | apply below_alloc | apply pw_below_drewN | apply below_drew1) | exact HB.out)⟩⟩
    case round =>
      clear H'
      try clear c1
      try clear p2
      try clear c4
      try clear c4b0
      try clear c4b1
      try clear c4b2
      obtain ⟨x6_1, rfl, HA, HK1, HO_5, HB⟩ := hrel
      cases gk with
      | zero => exact absurd HA.out (by simp [tincturelaw25_equal.l0])
      | succ k1 =>
        have H := HA.out
        clear HA
        simp only [tincturelaw25_equal.l0] at H
        by_cases c7 : x6_1 < (t106.length : Int)
        · rw [if_pos c7] at H
          have c7b0 : decide (x6_1 < (t106.length : Int)) = true := decide_eq_true c7
          clear c7
          by_cases c8 : 0 ≤ x6_1
          · rw [if_pos c8] at H
            have c8b0 : decide (0 ≤ x6_1) = true := decide_eq_true c8
            clear c8
            by_cases c9 : x6_1 < (l1.length : Int)
            · rw [if_pos c9] at H
              have c9b0 : decide (x6_1 < (l1.length : Int)) = true := decide_eq_true c9
              clear c9
              by_cases c10 : (!(((rd_T83 t106 x6_1).f0) == ((rd_T83 l1 x6_1).f0)) || (!(((rd_T83 t106 x6_1).f1) == ((rd_T83 l1 x6_1).f1)) || (!(((rd_T83 t106 x6_1).f2) == ((rd_T83 l1 x6_1).f2)) || (!(((rd_T83 t106 x6_1).f3) == ((rd_T83 l1 x6_1).f3)) || (!(((rd_T83 t106 x6_1).f4) == ((rd_T83 l1 x6_1).f4))))))) = true
              · rw [if_pos c10] at H
                have c10b0 : (!(((rd_T83 t106 x6_1).f0) == ((rd_T83 l1 x6_1).f0)) || (!(((rd_T83 t106 x6_1).f1) == ((rd_T83 l1 x6_1).f1)) || (!(((rd_T83 t106 x6_1).f2) == ((rd_T83 l1 x6_1).f2)) || (!(((rd_T83 t106 x6_1).f3) == ((rd_T83 l1 x6_1).f3)) || (!(((rd_T83 t106 x6_1).f4) == ((rd_T83 l1 x6_1).f4))))))) = true := c10
                clear c10
                obtain rfl := Option.some.inj H
                have p109 : 0 ≤ (x6_1 : Int) := of_decide_eq_true (by first | (with_reducible assumption) | assumption)
                have q109 : x6_1 < (t106.length : Int) := of_decide_eq_true (by first | (with_reducible assumption) | assumption)
                obtain ⟨ad109, e109, hx109_0, hx109_1, hx109_2, hx109_3, hx109_4⟩ := at_T83 (Kd.R_reads' HO_5.out).2.2 x6_1 p109 q109
                cases e109
                replace p109 := eq_true p109
                replace q109 := eq_true q109
                have p110 : 0 ≤ (x6_1 : Int) := of_decide_eq_true (by first | (with_reducible assumption) | assumption)
                have q110 : x6_1 < (l1.length : Int) := of_decide_eq_true (by first | (with_reducible assumption) | assumption)
                obtain ⟨ad110, e110, hx110_0, hx110_1, hx110_2, hx110_3, hx110_4⟩ := at_T83 HR1.out x6_1 p110 q110
                cases e110
                replace hx110_0 := (HB.out.cell (World.block_lt_of_cell? w _ hx110_0)).trans hx110_0
                replace hx110_1 := (HB.out.cell (World.block_lt_of_cell? w _ hx110_1)).trans hx110_1
                replace hx110_2 := (HB.out.cell (World.block_lt_of_cell? w _ hx110_2)).trans hx110_2
                replace hx110_3 := (HB.out.cell (World.block_lt_of_cell? w _ hx110_3)).trans hx110_3
                replace hx110_4 := (HB.out.cell (World.block_lt_of_cell? w _ hx110_4)).trans hx110_4
                replace p110 := eq_true p110
                replace q110 := eq_true q110
                go_wp2
                repeat (go_quiet (fail); try go_wp2)
                go_ret
                exact ⟨by first | rfl | (simp [errW_none, errW_some] <;> rfl) | (simp [*, errW_none, errW_some] <;> rfl), by repeat (first | (with_reducible first | exact HB.out | apply below_alloc | apply pw_below_drewN | apply below_drew1) | exact HB.out)⟩
              · rw [if_neg c10] at H
                have c10b0 : (!(((rd_T83 t106 x6_1).f0) == ((rd_T83 l1 x6_1).f0)) || (!(((rd_T83 t106 x6_1).f1) == ((rd_T83 l1 x6_1).f1)) || (!(((rd_T83 t106 x6_1).f2) == ((rd_T83 l1 x6_1).f2)) || (!(((rd_T83 t106 x6_1).f3) == ((rd_T83 l1 x6_1).f3)) || (!(((rd_T83 t106 x6_1).f4) == ((rd_T83 l1 x6_1).f4))))))) = false := by simpa using c10
                clear c10
                have H' := Aside0.mk H
                clear H
                have p109 : 0 ≤ (x6_1 : Int) := of_decide_eq_true (by first | (with_reducible assumption) | assumption)
                have q109 : x6_1 < (t106.length : Int) := of_decide_eq_true (by first | (with_reducible assumption) | assumption)
                obtain ⟨ad109, e109, hx109_0, hx109_1, hx109_2, hx109_3, hx109_4⟩ := at_T83 (Kd.R_reads' HO_5.out).2.2 x6_1 p109 q109
                cases e109
                replace p109 := eq_true p109
                replace q109 := eq_true q109
                have p110 : 0 ≤ (x6_1 : Int) := of_decide_eq_true (by first | (with_reducible assumption) | assumption)
                have q110 : x6_1 < (l1.length : Int) := of_decide_eq_true (by first | (with_reducible assumption) | assumption)
                obtain ⟨ad110, e110, hx110_0, hx110_1, hx110_2, hx110_3, hx110_4⟩ := at_T83 HR1.out x6_1 p110 q110
                cases e110
                replace hx110_0 := (HB.out.cell (World.block_lt_of_cell? w _ hx110_0)).trans hx110_0
                replace hx110_1 := (HB.out.cell (World.block_lt_of_cell? w _ hx110_1)).trans hx110_1
                replace hx110_2 := (HB.out.cell (World.block_lt_of_cell? w _ hx110_2)).trans hx110_2
                replace hx110_3 := (HB.out.cell (World.block_lt_of_cell? w _ hx110_3)).trans hx110_3
                replace hx110_4 := (HB.out.cell (World.block_lt_of_cell? w _ hx110_4)).trans hx110_4
                replace p110 := eq_true p110
                replace q110 := eq_true q110
                go_wp2
                repeat (go_quiet (fail); try go_wp2)
                go_roundg k1
                case measure => have := HK1.out; omega
                case rel => exact ⟨(wrap64 (x6_1 + 1)), (by first | rfl | (simp; done) | (simp [*]; done)), H', ⟨by have := HK1.out; omega⟩, ⟨by (with_reducible repeat (first | apply Kd.R_alloc | apply Kd.R_drewN | apply Kd.R_drew)); exact HO_5.out⟩, ⟨by repeat (first | (with_reducible first | exact HB.out | apply below_alloc | apply pw_below_drewN | apply below_drew1) | exact HB.out)⟩⟩
            · rw [if_neg c9] at H
              exact absurd H (by simp)
          · rw [if_neg c8] at H
            exact absurd H (by simp)
        · rw [if_neg c7] at H
          have c7b0 : decide (x6_1 < (t106.length : Int)) = false := decide_eq_false c7
          clear c7
          obtain rfl := Option.some.inj H
          go_wp2
          repeat (go_quiet (fail); try go_wp2)
          go_ret
          exact ⟨by first | rfl | (simp [errW_none, errW_some] <;> rfl) | (simp [*, errW_none, errW_some] <;> rfl), by repeat (first | (with_reducible first | exact HB.out | apply below_alloc | apply pw_below_drewN | apply below_drew1) | exact HB.out)⟩
  · rw [if_neg c4] at H
    have c4b0 : ((t106.length : Int) == (l1.length : Int)) = false := beq_eq_false_iff_ne.mpr c4
    have c4b1 : ((t106.length : Int) != (l1.length : Int)) = true := bne_iff_ne.mpr c4
    have c4b2 : (t106.length == l1.length) = false := by first | simpa using c4 | (simp at c4 ⊢; omega)
    obtain rfl := Option.some.inj H
    go_enter Try.func12, Try.ntmps12
    go_wp2_with (first | (go_at_call 13; (with_reducible refine (tincturelaw25_nodes.calls k _ _ l0 t106 _ ?side1 ?side2 A3.out).mono ?_); (case side1 => repeat (first | exact HR0.out | (with_reducible refine Kd.C_alloc ?_ _) | (with_reducible refine Kd.C_drewN ?_ _) | (with_reducible refine Kd.C_drew ?_))); (case side2 => exact HC0.out); rintro e w11 ⟨v107, rfl, ho0, hb⟩; have n0_ := Aside0.mk (Kd.R_lower ho0 (below_size (by repeat (first | (with_reducible first | exact HB.out | apply below_alloc | apply pw_below_drewN | apply below_drew1) | exact HB.out)))); have n1_ := Aside0.mk (below_step (by repeat (first | (with_reducible first | exact HB.out | apply below_alloc | apply pw_below_drewN | apply below_drew1) | exact HB.out)) hb); clear HB; have HO108 := n0_; have HB := n1_; clear n0_ n1_; (try clear hb); (try clear hb2); (try clear hk); (try clear hi); (try clear ho0); obtain ⟨Ao12, co12, eo12⟩ := Kd.R_slice HO108.out; subst eo12))
    repeat (go_quiet (first | (go_at_call 13; (with_reducible refine (tincturelaw25_nodes.calls k _ _ l0 t106 _ ?side1 ?side2 A3.out).mono ?_); (case side1 => repeat (first | exact HR0.out | (with_reducible refine Kd.C_alloc ?_ _) | (with_reducible refine Kd.C_drewN ?_ _) | (with_reducible refine Kd.C_drew ?_))); (case side2 => exact HC0.out); rintro e w11 ⟨v107, rfl, ho0, hb⟩; have n0_ := Aside0.mk (Kd.R_lower ho0 (below_size (by repeat (first | (with_reducible first | exact HB.out | apply below_alloc | apply pw_below_drewN | apply below_drew1) | exact HB.out)))); have n1_ := Aside0.mk (below_step (by repeat (first | (with_reducible first | exact HB.out | apply below_alloc | apply pw_below_drewN | apply below_drew1) | exact HB.out)) hb); clear HB; have HO108 := n0_; have HB := n1_; clear n0_ n1_; (try clear hb); (try clear hb2); (try clear hk); (try clear hi); (try clear ho0); obtain ⟨Ao12, co12, eo12⟩ := Kd.R_slice HO108.out; subst eo12)); try go_wp2_with (first | (go_at_call 13; (with_reducible refine (tincturelaw25_nodes.calls k _ _ l0 t106 _ ?side1 ?side2 A3.out).mono ?_); (case side1 => repeat (first | exact HR0.out | (with_reducible refine Kd.C_alloc ?_ _) | (with_reducible refine Kd.C_drewN ?_ _) | (with_reducible refine Kd.C_drew ?_))); (case side2 => exact HC0.out); rintro e w11 ⟨v107, rfl, ho0, hb⟩; have n0_ := Aside0.mk (Kd.R_lower ho0 (below_size (by repeat (first | (with_reducible first | exact HB.out | apply below_alloc | apply pw_below_drewN | apply below_drew1) | exact HB.out)))); have n1_ := Aside0.mk (below_step (by repeat (first | (with_reducible first | exact HB.out | apply below_alloc | apply pw_below_drewN | apply below_drew1) | exact HB.out)) hb); clear HB; have HO108 := n0_; have HB := n1_; clear n0_ n1_; (try clear hb); (try clear hb2); (try clear hk); (try clear hi); (try clear ho0); obtain ⟨Ao12, co12, eo12⟩ := Kd.R_slice HO108.out; subst eo12)))
    go_ret
    exact ⟨by first | rfl | (simp [errW_none, errW_some] <;> rfl) | (simp [*, errW_none, errW_some] <;> rfl), by repeat (first | (with_reducible first | exact HB.out | apply below_alloc | apply pw_below_drewN | apply below_drew1) | exact HB.out)⟩
/-- A state of type 49 at block g of W; what its slices lead to came in by w0. -/
def IsS49 (w0 W : World) (g : Nat) (f0 : Int) (f1 : List (S91)) (f2 : Int) (f3 : Int) : Prop := ∃ A1 c1, W.heap[g]? = some (.cells #[.int .i64 f0, .slice A1 f1.length c1, .int .i64 f2, .int .i64 f3] 49 (0, 0)) ∧ w0.heap.size ≤ g ∧ Kd.C k91 w0 A1 f1.length f1
theorem IsS49.grown {w0 W : World} {g : Nat} {f0 : Int} {f1 : List (S91)} {f2 : Int} {f3 : Int} {W1 : World} {row : Option Nat} (h : IsS49 w0 W g f0 f1 f2 f3) (hw : W.grownBy W1 row) (hne : some g ≠ row) : IsS49 w0 W1 g f0 f1 f2 f3 := by
  obtain ⟨A1, c1, hb, hg, hr1⟩ := h
  exact ⟨A1, c1, blk_grown hb hw hne, hg, hr1⟩
theorem IsS49.own_neN {w0 W : World} {g : Nat} {f0 : Int} {f1 : List (S91)} {f2 : Int} {f3 : Int} {α : Type} {d : Kd α} {e : Nat} {base : Nat} {ok : Nat → Prop} {v : Value} {xs : List α} (h : IsS49 w0 W g f0 f1 f2 f3) (ho : Kd.N d e W base ok v xs) (ht : e ≠ 49) : some g ≠ v.ownBlock := by
  obtain ⟨A1, c1, hb, hg, hr1⟩ := h
  exact Kd.N_ne ho hb ht
theorem IsS49.fresh {w0 W : World} {g : Nat} {f0 : Int} {f1 : List (S91)} {f2 : Int} {f3 : Int} (h : IsS49 w0 W g f0 f1 f2 f3) : ∀ k, W.heap.size ≤ k → k ≠ g := by
  obtain ⟨A1, c1, hb, hg, hr1⟩ := h
  exact Kd.freshB hb
theorem IsS49.kept {w0 W : World} {g : Nat} {f0 : Int} {f1 : List (S91)} {f2 : Int} {f3 : Int} {W1 : World} {S : Nat → Prop} (h : IsS49 w0 W g f0 f1 f2 f3) (hk : Kept W W1 S) (hne : ¬ S g) : IsS49 w0 W1 g f0 f1 f2 f3 := by
  obtain ⟨A1, c1, hb, hg, hr1⟩ := h
  exact ⟨A1, c1, blk_kept hb hk hne, hg, hr1⟩
theorem IsS49.below {w0 W : World} {g : Nat} {f0 : Int} {f1 : List (S91)} {f2 : Int} {f3 : Int} {W1 : World} (h : IsS49 w0 W g f0 f1 f2 f3) (hw : Below W.heap.size W W1) : IsS49 w0 W1 g f0 f1 f2 f3 := h.grown (grown_of_below hw none) (by simp)
theorem IsS49.alloc {w0 W : World} {g : Nat} {f0 : Int} {f1 : List (S91)} {f2 : Int} {f3 : Int} (h : IsS49 w0 W g f0 f1 f2 f3) (o : Obj) : IsS49 w0 (W.alloc o) g f0 f1 f2 f3 := h.below (below_alloc (Below.refl _ _) o)
theorem IsS49.drewN {w0 W : World} {g : Nat} {f0 : Int} {f1 : List (S91)} {f2 : Int} {f3 : Int} (h : IsS49 w0 W g f0 f1 f2 f3) (m : Nat) : IsS49 w0 (W.drewN m) g f0 f1 f2 f3 := h
theorem IsS49.drew {w0 W : World} {g : Nat} {f0 : Int} {f1 : List (S91)} {f2 : Int} {f3 : Int} (h : IsS49 w0 W g f0 f1 f2 f3) : IsS49 w0 W.drew g f0 f1 f2 f3 := h
theorem IsS49.at_ {w0 W : World} {g : Nat} {f0 : Int} {f1 : List (S91)} {f2 : Int} {f3 : Int} {w' : World} {m : Nat} (hq : W.drewN m = w') (h : IsS49 w0 W g f0 f1 f2 f3) : IsS49 w0 w' g f0 f1 f2 f3 := by subst hq; exact IsS49.drewN h m
theorem IsS49.apart {w0 W : World} {g : Nat} {f0 : Int} {f1 : List (S91)} {f2 : Int} {f3 : Int} {α : Type} {d : Kd α} {e : Nat} {base : Nat} {ok : Nat → Prop} {v : Value} {xs : List α} (h : IsS49 w0 W g f0 f1 f2 f3) (ho : d.R e W base ok v xs) (ht : ∀ q, q ∈ e :: d.E → q ≠ 49) : d.R e W base (fun k => ok k ∧ k ≠ g) v xs := by
  obtain ⟨A1, c1, hb, hg, hr1⟩ := h
  exact Kd.R_types ho hb ht
theorem IsS49.own_ne {w0 W : World} {g : Nat} {f0 : Int} {f1 : List (S91)} {f2 : Int} {f3 : Int} {α : Type} {d : Kd α} {e : Nat} {base : Nat} {ok : Nat → Prop} {v : Value} {xs : List α} (h : IsS49 w0 W g f0 f1 f2 f3) (ho : d.R e W base ok v xs) (ht : e ≠ 49) : some g ≠ v.ownBlock := by
  obtain ⟨A1, c1, hb, hg, hr1⟩ := h
  exact Kd.R_ne ho hb ht
theorem IsS49.apartQ {w0 W : World} {g : Nat} {f0 : Int} {f1 : List (S91)} {f2 : Int} {f3 : Int} {α : Type} {d : Kd α} {e : Nat} {base : Nat} {ok : Nat → Prop} {v : Value} {xs : List α} (h : IsS49 w0 W g f0 f1 f2 f3) (ho : d.Q e W base ok v xs) (ht : ∀ q, q ∈ e :: d.E → q ≠ 49) : d.Q e W base (fun k => ok k ∧ k ≠ g) v xs := by
  obtain ⟨A1, c1, hb, hg, hr1⟩ := h
  exact Kd.Q_types ho hb ht
theorem IsS49.own_neQ {w0 W : World} {g : Nat} {f0 : Int} {f1 : List (S91)} {f2 : Int} {f3 : Int} {α : Type} {d : Kd α} {e : Nat} {base : Nat} {ok : Nat → Prop} {v : Value} {xs : List α} (h : IsS49 w0 W g f0 f1 f2 f3) (ho : d.Q e W base ok v xs) (ht : e ≠ 49) : some g ≠ v.ownBlock := by
  obtain ⟨A1, c1, hb, hg, hr1⟩ := h
  exact Kd.Q_ne ho hb ht
theorem IsS49.apartS {w0 W : World} {g : Nat} {f0 : Int} {f1 : List (S91)} {f2 : Int} {f3 : Int} {α : Type} {d : Kd α} {e : Nat} {base : Nat} {ok : Nat → Prop} {v : Value} {xs : List α} (h : IsS49 w0 W g f0 f1 f2 f3) (ho : d.S e W base ok v xs) (ht : ∀ q, q ∈ e :: d.E → q ≠ 49) : d.S e W base (fun k => ok k ∧ k ≠ g) v xs := by
  obtain ⟨A1, c1, hb, hg, hr1⟩ := h
  exact Kd.S_types ho hb ht
theorem IsS49.own_neS {w0 W : World} {g : Nat} {f0 : Int} {f1 : List (S91)} {f2 : Int} {f3 : Int} {α : Type} {d : Kd α} {e : Nat} {base : Nat} {ok : Nat → Prop} {v : Value} {xs : List α} (h : IsS49 w0 W g f0 f1 f2 f3) (ho : d.S e W base ok v xs) (ht : e ≠ 49) : some g ≠ v.ownBlock := by
  obtain ⟨A1, c1, hb, hg, hr1⟩ := h
  exact Kd.S_ne ho hb ht
theorem IsS49.lt {w0 W : World} {g : Nat} {f0 : Int} {f1 : List (S91)} {f2 : Int} {f3 : Int} (h : IsS49 w0 W g f0 f1 f2 f3) : g < W.heap.size := by
  obtain ⟨A1, c1, hb, hg, hr1⟩ := h
  exact blk_lt hb
theorem IsS49.ge {w0 W : World} {g : Nat} {f0 : Int} {f1 : List (S91)} {f2 : Int} {f3 : Int} (h : IsS49 w0 W g f0 f1 f2 f3) : w0.heap.size ≤ g := by
  obtain ⟨A1, c1, hb, hg, hr1⟩ := h
  exact hg
theorem IsS49.ne_blk {w0 W : World} {g : Nat} {f0 : Int} {f1 : List (S91)} {f2 : Int} {f3 : Int} {a : Nat} {cs : Array Value} {t : TypeId} {fr : Nat × Nat} (h : IsS49 w0 W g f0 f1 f2 f3) (hb2 : W.heap[a]? = some (.cells cs t fr)) (ht : t ≠ 49) : g ≠ a := by
  obtain ⟨A1, c1, hb, hg, hr1⟩ := h
  rintro rfl
  rw [hb] at hb2
  injection hb2 with hb2
  injection hb2 with _ ht2
  exact ht ht2.symm
theorem IsS49.far {w0 W : World} {g : Nat} {f0 : Int} {f1 : List (S91)} {f2 : Int} {f3 : Int} {p : Addr} (h : IsS49 w0 W g f0 f1 f2 f3) (hne : g ≠ p.block) (u : Value) : IsS49 w0 (W.setCell p u) g f0 f1 f2 f3 := by
  obtain ⟨A1, c1, hb, hg, hr1⟩ := h
  exact ⟨A1, c1, blk_far hb hne u, hg, hr1⟩
theorem cellS49_0 {W : World} {g : Nat} {A1 : Option Addr} {c1 : Nat} {f0 : Int} {f1 : List (S91)} {f2 : Int} {f3 : Int} (h : W.heap[g]? = some (.cells #[.int .i64 f0, .slice A1 f1.length c1, .int .i64 f2, .int .i64 f3] 49 (0, 0))) : W.cell? ⟨g, 0, none⟩ = some (.int .i64 f0) := (blk_cell h 0).trans rfl
theorem IsS49.set_0 {w0 W : World} {g : Nat} {f0 : Int} {f1 : List (S91)} {f2 : Int} {f3 : Int} (h : IsS49 w0 W g f0 f1 f2 f3) (x : Int) : IsS49 w0 (W.setCell ⟨g, 0, none⟩ (.int .i64 x)) g x f1 f2 f3 := by
  obtain ⟨A1, c1, hb, hg, hr1⟩ := h
  exact ⟨A1, c1, by simpa using blk_set hb 0 (.int .i64 x), hg, hr1⟩
theorem cellS49_1 {W : World} {g : Nat} {A1 : Option Addr} {c1 : Nat} {f0 : Int} {f1 : List (S91)} {f2 : Int} {f3 : Int} (h : W.heap[g]? = some (.cells #[.int .i64 f0, .slice A1 f1.length c1, .int .i64 f2, .int .i64 f3] 49 (0, 0))) : W.cell? ⟨g, 1, none⟩ = some (.slice A1 f1.length c1) := (blk_cell h 1).trans rfl
theorem cellS49_2 {W : World} {g : Nat} {A1 : Option Addr} {c1 : Nat} {f0 : Int} {f1 : List (S91)} {f2 : Int} {f3 : Int} (h : W.heap[g]? = some (.cells #[.int .i64 f0, .slice A1 f1.length c1, .int .i64 f2, .int .i64 f3] 49 (0, 0))) : W.cell? ⟨g, 2, none⟩ = some (.int .i64 f2) := (blk_cell h 2).trans rfl
theorem IsS49.set_2 {w0 W : World} {g : Nat} {f0 : Int} {f1 : List (S91)} {f2 : Int} {f3 : Int} (h : IsS49 w0 W g f0 f1 f2 f3) (x : Int) : IsS49 w0 (W.setCell ⟨g, 2, none⟩ (.int .i64 x)) g f0 f1 x f3 := by
  obtain ⟨A1, c1, hb, hg, hr1⟩ := h
  exact ⟨A1, c1, by simpa using blk_set hb 2 (.int .i64 x), hg, hr1⟩
theorem cellS49_3 {W : World} {g : Nat} {A1 : Option Addr} {c1 : Nat} {f0 : Int} {f1 : List (S91)} {f2 : Int} {f3 : Int} (h : W.heap[g]? = some (.cells #[.int .i64 f0, .slice A1 f1.length c1, .int .i64 f2, .int .i64 f3] 49 (0, 0))) : W.cell? ⟨g, 3, none⟩ = some (.int .i64 f3) := (blk_cell h 3).trans rfl
theorem IsS49.set_3 {w0 W : World} {g : Nat} {f0 : Int} {f1 : List (S91)} {f2 : Int} {f3 : Int} (h : IsS49 w0 W g f0 f1 f2 f3) (x : Int) : IsS49 w0 (W.setCell ⟨g, 3, none⟩ (.int .i64 x)) g f0 f1 f2 x := by
  obtain ⟨A1, c1, hb, hg, hr1⟩ := h
  exact ⟨A1, c1, by simpa using blk_set hb 3 (.int .i64 x), hg, hr1⟩
theorem IsS49.new (w0 W : World) (A1 : Option Addr) (c1 : Nat) (f0 : Int) (f1 : List (S91)) (f2 : Int) (f3 : Int) (hB : Below w0.heap.size w0 W) (hr1 : Kd.C k91 w0 A1 f1.length f1) : IsS49 w0 (W.alloc (.cells #[.int .i64 f0, .slice A1 f1.length c1, .int .i64 f2, .int .i64 f3] 49)) W.heap.size f0 f1 f2 f3 := ⟨A1, c1, by simpa using heap_alloc_new W _, hB.size, hr1⟩
/-! ### tinctureref18_Cache_at: function 31 -/
def tinctureref18_Cache_at.l0 : Nat → Int → Int → Int → Int → List (S91) → Int → Int → Option (Int × Int × Int × Int)
  | 0, _, _, _, _, _, _, _ => none
  | k + 1, x1, x2, x7, x1000, x1001, x1002, x1003 => if x7 < (x1001.length : Int) then (if 0 ≤ x7 then (if ((rd_T91 x1001 x7).f0) = x1 then (if ((rd_T91 x1001 x7).f1) = x2 then (some (x7, x1000, x1002, x1003)) else (tinctureref18_Cache_at.l0 k x1 x2 (wrap64 (x7 + 1)) x1000 x1001 x1002 x1003)) else (tinctureref18_Cache_at.l0 k x1 x2 (wrap64 (x7 + 1)) x1000 x1001 x1002 x1003)) else (none)) else (some ((-1), x1000, x1002, x1003))
def tinctureref18_Cache_at.f (k : Nat) (s0_0 : Int) (s0_1 : List (S91)) (s0_2 : Int) (s0_3 : Int) (a1 : Int) (a2 : Int) : Option (Int × Int × Int × Int) := tinctureref18_Cache_at.l0 k a1 a2 0 s0_0 s0_1 s0_2 s0_3
theorem tinctureref18_Cache_at.mono_l : ∀ k, (∀ y0 y1 y2 y3 y4 y5 y6, LeO (tinctureref18_Cache_at.l0 k y0 y1 y2 y3 y4 y5 y6) (tinctureref18_Cache_at.l0 (k + 1) y0 y1 y2 y3 y4 y5 y6))
  | 0 => fun _ _ _ _ _ _ _ r h => by simp [tinctureref18_Cache_at.l0] at h
  | k + 1 => by
    have ih0 := tinctureref18_Cache_at.mono_l k
    · intro y0 y1 y2 y3 y4 y5 y6
      unfold tinctureref18_Cache_at.l0
      repeat' first
      | (with_reducible exact ih0 _ _ _ _ _ _ _)
      | (with_reducible exact LeO.refl _)
      | (with_reducible exact LeO.none _)
      | (with_reducible refine LeO.ite ?_ ?_)
      | (with_reducible refine LeO.bind ?_ (fun _ => ?_))
      | exact ih0 _ _ _ _ _ _ _
      | exact LeO.none _
      | refine LeO.ite ?_ ?_
      | refine LeO.bind ?_ (fun _ => ?_)
theorem tinctureref18_Cache_at.mono : ∀ a0 a1 a2 a3 a4 a5 k, LeO (tinctureref18_Cache_at.f k a0 a1 a2 a3 a4 a5) (tinctureref18_Cache_at.f (k + 1) a0 a1 a2 a3 a4 a5) := by
  intro a0 a1 a2 a3 a4 a5 k
  have ih0 := tinctureref18_Cache_at.mono_l k
  unfold tinctureref18_Cache_at.f
  repeat' first
      | (with_reducible exact ih0 _ _ _ _ _ _ _)
      | (with_reducible exact LeO.refl _)
      | (with_reducible exact LeO.none _)
      | (with_reducible refine LeO.ite ?_ ?_)
      | (with_reducible refine LeO.bind ?_ (fun _ => ?_))
      | exact ih0 _ _ _ _ _ _ _
      | exact LeO.none _
      | refine LeO.ite ?_ ?_
      | refine LeO.bind ?_ (fun _ => ?_)
set_option maxHeartbeats 8000000 in
set_option maxRecDepth 100000 in
theorem tinctureref18_Cache_at.calls (k : Nat) (g : Nat) (s0_0 : Int) (s0_1 : List (S91)) (s0_2 : Int) (s0_3 : Int) (a1 : Int) (a2 : Int) (r1 : Int) (r2 : Int) (r3 : Int) (r4 : Int) (w0 w : World) (hI : IsS49 w0 w g s0_0 s0_1 s0_2 s0_3) (hB : Below w0.heap.size w0 w) (h : tinctureref18_Cache_at.f k s0_0 s0_1 s0_2 s0_3 a1 a2 = some (r1, r2, r3, r4)) :
    Calls Try.prog 31 #[.pointer (some ⟨g, 0, none⟩), .int .u32 a1, .int .i64 a2] w fun e w' => e = .returned (.int .i64 r1) ∧ IsS49 w0 w' g r2 s0_1 r3 r4 ∧ Below w0.heap.size w0 w' ∧ KeepBut w w' g none := by
  have HI0 := Aside0.mk hI
  have HK := Aside0.mk (KeepBut.refl w g none)
  have HL := Aside0.mk hB.size
  clear hI
  have HW0 := Aside0.mk hB.size
  have HB := Aside0.mk hB
  clear hB
  have H : (tinctureref18_Cache_at.l0 k a1 a2 0 s0_0 s0_1 s0_2 s0_3) = some (r1, r2, r3, r4) := h
  clear h
  have H' := Aside0.mk H
  clear H
  go_enter Try.func31, Try.ntmps31
  go_wp2
  go_loopg [7] k (fun kq v7 w' => ∃ (x7_1 : Int), v7 = .int .i64 x7_1 ∧ Aside0 (tinctureref18_Cache_at.l0 kq a1 a2 x7_1 s0_0 s0_1 s0_2 s0_3 = some (r1, r2, r3, r4)) ∧ Aside0 (kq ≤ k) ∧ Aside0 (IsS49 w0 w' g s0_0 s0_1 s0_2 s0_3) ∧ Aside0 (KeepBut w w' g none) ∧ Aside0 (Below w0.heap.size w0 w'))
  case atStart => exact ⟨(0), (by first | rfl | (simp; done) | (simp [*]; done)), H', ⟨Nat.le_refl _⟩, ⟨by repeat (first | (with_reducible first | exact HI0.out | apply IsS49.alloc | apply IsS49.drewN | apply IsS49.drew | apply IsS49.set_0 | apply IsS49.set_2 | apply IsS49.set_3) | exact HI0.out)⟩, ⟨by repeat (first | (with_reducible first | exact HK.out | apply KeepBut.set_ | apply keep_drewN | apply keep_drew | apply keep_alloc) | exact HK.out)⟩, ⟨by repeat (first | (with_reducible first | exact HB.out | apply below_alloc | apply pw_below_drewN | apply below_drew1 | refine below_set ?_ (IsS49.ge HI0.out)) | exact HB.out)⟩⟩
  case round =>
    clear H'
    try clear p2
    try clear c3
    obtain ⟨x7_1, rfl, HA, HK1, HI0, HK, HB⟩ := hrel
    cases gk with
    | zero => exact absurd HA.out (by simp [tinctureref18_Cache_at.l0])
    | succ k1 =>
      have H := HA.out
      clear HA
      simp only [tinctureref18_Cache_at.l0] at H
      by_cases c4 : x7_1 < (s0_1.length : Int)
      · rw [if_pos c4] at H
        have c4b0 : decide (x7_1 < (s0_1.length : Int)) = true := decide_eq_true c4
        clear c4
        by_cases c5 : 0 ≤ x7_1
        · rw [if_pos c5] at H
          have c5b0 : decide (0 ≤ x7_1) = true := decide_eq_true c5
          clear c5
          by_cases c6 : ((rd_T91 s0_1 x7_1).f0) = a1
          · rw [if_pos c6] at H
            have c6b0 : (((rd_T91 s0_1 x7_1).f0) == a1) = true := beq_iff_eq.mpr c6
            have c6b1 : (((rd_T91 s0_1 x7_1).f0) != a1) = false := bne_eq_false_iff_eq.mpr c6
            clear c6
            by_cases c7 : ((rd_T91 s0_1 x7_1).f1) = a2
            · rw [if_pos c7] at H
              have c7b0 : (((rd_T91 s0_1 x7_1).f1) == a2) = true := beq_iff_eq.mpr c7
              have c7b1 : (((rd_T91 s0_1 x7_1).f1) != a2) = false := bne_eq_false_iff_eq.mpr c7
              clear c7
              simp only [Option.some.injEq, Prod.mk.injEq] at H
              obtain ⟨rfl, rfl, rfl, rfl⟩ := H
              obtain ⟨ASz8_1, cSz8_1, HGz8, hgz8, HSz8_1⟩ := HI0.out
              have hcz8_0 := cellS49_0 HGz8
              have hcz8_1 := cellS49_1 HGz8
              have hcz8_2 := cellS49_2 HGz8
              have hcz8_3 := cellS49_3 HGz8
              have hfz8_0 := blk_frozen HGz8 0
              have hfz8_2 := blk_frozen HGz8 2
              have hfz8_3 := blk_frozen HGz8 3
              clear HGz8 hgz8
              have p111 : 0 ≤ (x7_1 : Int) := of_decide_eq_true (by first | (with_reducible assumption) | assumption)
              have q111 : x7_1 < (s0_1.length : Int) := of_decide_eq_true (by first | (with_reducible assumption) | assumption)
              obtain ⟨ad111, A111_3, c111_3, e111, hx111_0, hx111_1, hx111_2, hx111_3, hl111_3, hi111_3⟩ := at_T91 HSz8_1 x7_1 p111 q111
              cases e111
              replace hx111_0 := pw_cell_below HB.out hx111_0
              replace hx111_1 := pw_cell_below HB.out hx111_1
              replace hx111_2 := pw_cell_below HB.out hx111_2
              replace hx111_3 := pw_cell_below HB.out hx111_3
              have HR111_3 := Aside0.mk hi111_3
              have HC111_3 := Aside0.mk hl111_3
              clear hi111_3 hl111_3
              replace p111 := eq_true p111
              replace q111 := eq_true q111
              have p112 : 0 ≤ (x7_1 : Int) := of_decide_eq_true (by first | (with_reducible assumption) | assumption)
              have q112 : x7_1 < (s0_1.length : Int) := of_decide_eq_true (by first | (with_reducible assumption) | assumption)
              obtain ⟨ad112, A112_3, c112_3, e112, hx112_0, hx112_1, hx112_2, hx112_3, hl112_3, hi112_3⟩ := at_T91 HSz8_1 x7_1 p112 q112
              obtain rfl : ad111 = ad112 := (by injection e112)
              replace hx112_0 := pw_cell_below HB.out hx112_0
              replace hx112_1 := pw_cell_below HB.out hx112_1
              replace hx112_2 := pw_cell_below HB.out hx112_2
              replace hx112_3 := pw_cell_below HB.out hx112_3
              have HR112_3 := Aside0.mk hi112_3
              have HC112_3 := Aside0.mk hl112_3
              clear hi112_3 hl112_3
              replace p112 := eq_true p112
              replace q112 := eq_true q112
              go_wp2
              go_ret
              exact ⟨by first | rfl | (simp [errW_none, errW_some] <;> rfl) | (simp [*, errW_none, errW_some] <;> rfl), by repeat (first | (with_reducible first | exact HI0.out | apply IsS49.alloc | apply IsS49.drewN | apply IsS49.drew | apply IsS49.set_0 | apply IsS49.set_2 | apply IsS49.set_3) | exact HI0.out), by repeat (first | (with_reducible first | exact HB.out | apply below_alloc | apply pw_below_drewN | apply below_drew1 | refine below_set ?_ (IsS49.ge HI0.out)) | exact HB.out), by repeat (first | (with_reducible first | exact HK.out | apply KeepBut.set_ | apply keep_drewN | apply keep_drew | apply keep_alloc) | exact HK.out)⟩
            · rw [if_neg c7] at H
              have c7b0 : (((rd_T91 s0_1 x7_1).f1) == a2) = false := beq_eq_false_iff_ne.mpr c7
              have c7b1 : (((rd_T91 s0_1 x7_1).f1) != a2) = true := bne_iff_ne.mpr c7
              have H' := Aside0.mk H
              clear H
              obtain ⟨ASz9_1, cSz9_1, HGz9, hgz9, HSz9_1⟩ := HI0.out
              have hcz9_0 := cellS49_0 HGz9
              have hcz9_1 := cellS49_1 HGz9
              have hcz9_2 := cellS49_2 HGz9
              have hcz9_3 := cellS49_3 HGz9
              have hfz9_0 := blk_frozen HGz9 0
              have hfz9_2 := blk_frozen HGz9 2
              have hfz9_3 := blk_frozen HGz9 3
              clear HGz9 hgz9
              have p111 : 0 ≤ (x7_1 : Int) := of_decide_eq_true (by first | (with_reducible assumption) | assumption)
              have q111 : x7_1 < (s0_1.length : Int) := of_decide_eq_true (by first | (with_reducible assumption) | assumption)
              obtain ⟨ad111, A111_3, c111_3, e111, hx111_0, hx111_1, hx111_2, hx111_3, hl111_3, hi111_3⟩ := at_T91 HSz9_1 x7_1 p111 q111
              cases e111
              replace hx111_0 := pw_cell_below HB.out hx111_0
              replace hx111_1 := pw_cell_below HB.out hx111_1
              replace hx111_2 := pw_cell_below HB.out hx111_2
              replace hx111_3 := pw_cell_below HB.out hx111_3
              have HR111_3 := Aside0.mk hi111_3
              have HC111_3 := Aside0.mk hl111_3
              clear hi111_3 hl111_3
              replace p111 := eq_true p111
              replace q111 := eq_true q111
              have p112 : 0 ≤ (x7_1 : Int) := of_decide_eq_true (by first | (with_reducible assumption) | assumption)
              have q112 : x7_1 < (s0_1.length : Int) := of_decide_eq_true (by first | (with_reducible assumption) | assumption)
              obtain ⟨ad112, A112_3, c112_3, e112, hx112_0, hx112_1, hx112_2, hx112_3, hl112_3, hi112_3⟩ := at_T91 HSz9_1 x7_1 p112 q112
              obtain rfl : ad111 = ad112 := (by injection e112)
              replace hx112_0 := pw_cell_below HB.out hx112_0
              replace hx112_1 := pw_cell_below HB.out hx112_1
              replace hx112_2 := pw_cell_below HB.out hx112_2
              replace hx112_3 := pw_cell_below HB.out hx112_3
              have HR112_3 := Aside0.mk hi112_3
              have HC112_3 := Aside0.mk hl112_3
              clear hi112_3 hl112_3
              replace p112 := eq_true p112
              replace q112 := eq_true q112
              go_wp2
              go_roundg k1
              case measure => have := HK1.out; omega
              case rel => exact ⟨(wrap64 (x7_1 + 1)), (by first | rfl | (simp; done) | (simp [*]; done)), H', ⟨by have := HK1.out; omega⟩, ⟨by repeat (first | (with_reducible first | exact HI0.out | apply IsS49.alloc | apply IsS49.drewN | apply IsS49.drew | apply IsS49.set_0 | apply IsS49.set_2 | apply IsS49.set_3) | exact HI0.out)⟩, ⟨by repeat (first | (with_reducible first | exact HK.out | apply KeepBut.set_ | apply keep_drewN | apply keep_drew | apply keep_alloc) | exact HK.out)⟩, ⟨by repeat (first | (with_reducible first | exact HB.out | apply below_alloc | apply pw_below_drewN | apply below_drew1 | refine below_set ?_ (IsS49.ge HI0.out)) | exact HB.out)⟩⟩
          · rw [if_neg c6] at H
            have c6b0 : (((rd_T91 s0_1 x7_1).f0) == a1) = false := beq_eq_false_iff_ne.mpr c6
            have c6b1 : (((rd_T91 s0_1 x7_1).f0) != a1) = true := bne_iff_ne.mpr c6
            have H' := Aside0.mk H
            clear H
            obtain ⟨ASz10_1, cSz10_1, HGz10, hgz10, HSz10_1⟩ := HI0.out
            have hcz10_0 := cellS49_0 HGz10
            have hcz10_1 := cellS49_1 HGz10
            have hcz10_2 := cellS49_2 HGz10
            have hcz10_3 := cellS49_3 HGz10
            have hfz10_0 := blk_frozen HGz10 0
            have hfz10_2 := blk_frozen HGz10 2
            have hfz10_3 := blk_frozen HGz10 3
            clear HGz10 hgz10
            have p111 : 0 ≤ (x7_1 : Int) := of_decide_eq_true (by first | (with_reducible assumption) | assumption)
            have q111 : x7_1 < (s0_1.length : Int) := of_decide_eq_true (by first | (with_reducible assumption) | assumption)
            obtain ⟨ad111, A111_3, c111_3, e111, hx111_0, hx111_1, hx111_2, hx111_3, hl111_3, hi111_3⟩ := at_T91 HSz10_1 x7_1 p111 q111
            cases e111
            replace hx111_0 := pw_cell_below HB.out hx111_0
            replace hx111_1 := pw_cell_below HB.out hx111_1
            replace hx111_2 := pw_cell_below HB.out hx111_2
            replace hx111_3 := pw_cell_below HB.out hx111_3
            have HR111_3 := Aside0.mk hi111_3
            have HC111_3 := Aside0.mk hl111_3
            clear hi111_3 hl111_3
            replace p111 := eq_true p111
            replace q111 := eq_true q111
            go_wp2
            go_roundg k1
            case measure => have := HK1.out; omega
            case rel => exact ⟨(wrap64 (x7_1 + 1)), (by first | rfl | (simp; done) | (simp [*]; done)), H', ⟨by have := HK1.out; omega⟩, ⟨by repeat (first | (with_reducible first | exact HI0.out | apply IsS49.alloc | apply IsS49.drewN | apply IsS49.drew | apply IsS49.set_0 | apply IsS49.set_2 | apply IsS49.set_3) | exact HI0.out)⟩, ⟨by repeat (first | (with_reducible first | exact HK.out | apply KeepBut.set_ | apply keep_drewN | apply keep_drew | apply keep_alloc) | exact HK.out)⟩, ⟨by repeat (first | (with_reducible first | exact HB.out | apply below_alloc | apply pw_below_drewN | apply below_drew1 | refine below_set ?_ (IsS49.ge HI0.out)) | exact HB.out)⟩⟩
        · rw [if_neg c5] at H
          exact absurd H (by simp)
      · rw [if_neg c4] at H
        have c4b0 : decide (x7_1 < (s0_1.length : Int)) = false := decide_eq_false c4
        clear c4
        simp only [Option.some.injEq, Prod.mk.injEq] at H
        obtain ⟨rfl, rfl, rfl, rfl⟩ := H
        obtain ⟨ASz11_1, cSz11_1, HGz11, hgz11, HSz11_1⟩ := HI0.out
        have hcz11_0 := cellS49_0 HGz11
        have hcz11_1 := cellS49_1 HGz11
        have hcz11_2 := cellS49_2 HGz11
        have hcz11_3 := cellS49_3 HGz11
        have hfz11_0 := blk_frozen HGz11 0
        have hfz11_2 := blk_frozen HGz11 2
        have hfz11_3 := blk_frozen HGz11 3
        clear HGz11 hgz11
        go_wp2
        go_ret
        exact ⟨by first | rfl | (simp [errW_none, errW_some] <;> rfl) | (simp [*, errW_none, errW_some] <;> rfl), by repeat (first | (with_reducible first | exact HI0.out | apply IsS49.alloc | apply IsS49.drewN | apply IsS49.drew | apply IsS49.set_0 | apply IsS49.set_2 | apply IsS49.set_3) | exact HI0.out), by repeat (first | (with_reducible first | exact HB.out | apply below_alloc | apply pw_below_drewN | apply below_drew1 | refine below_set ?_ (IsS49.ge HI0.out)) | exact HB.out), by repeat (first | (with_reducible first | exact HK.out | apply KeepBut.set_ | apply keep_drewN | apply keep_drew | apply keep_alloc) | exact HK.out)⟩
/-! ### tinctureref18_Cache_Len: function 23 -/
def tinctureref18_Cache_Len.f (s0_0 : Int) (s0_1 : List (S91)) (s0_2 : Int) (s0_3 : Int) : Option (Int × Int × Int × Int) := some ((s0_1.length : Int), s0_0, s0_2, s0_3)
set_option maxHeartbeats 8000000 in
set_option maxRecDepth 100000 in
theorem tinctureref18_Cache_Len.calls (g : Nat) (s0_0 : Int) (s0_1 : List (S91)) (s0_2 : Int) (s0_3 : Int) (r1 : Int) (r2 : Int) (r3 : Int) (r4 : Int) (w0 w : World) (hI : IsS49 w0 w g s0_0 s0_1 s0_2 s0_3) (hB : Below w0.heap.size w0 w) (h : tinctureref18_Cache_Len.f s0_0 s0_1 s0_2 s0_3 = some (r1, r2, r3, r4)) :
    Calls Try.prog 23 #[.pointer (some ⟨g, 0, none⟩)] w fun e w' => e = .returned (.int .i64 r1) ∧ IsS49 w0 w' g r2 s0_1 r3 r4 ∧ Below w0.heap.size w0 w' ∧ KeepBut w w' g none := by
  have HI0 := Aside0.mk hI
  have HK := Aside0.mk (KeepBut.refl w g none)
  have HL := Aside0.mk hB.size
  clear hI
  have HW0 := Aside0.mk hB.size
  have HB := Aside0.mk hB
  clear hB
  have H : (some ((s0_1.length : Int), s0_0, s0_2, s0_3)) = some (r1, r2, r3, r4) := h
  clear h
  simp only [Option.some.injEq, Prod.mk.injEq] at H
  obtain ⟨rfl, rfl, rfl, rfl⟩ := H
  obtain ⟨ASz2_1, cSz2_1, HGz2, hgz2, HSz2_1⟩ := HI0.out
  have hcz2_0 := cellS49_0 HGz2
  have hcz2_1 := cellS49_1 HGz2
  have hcz2_2 := cellS49_2 HGz2
  have hcz2_3 := cellS49_3 HGz2
  have hfz2_0 := blk_frozen HGz2 0
  have hfz2_2 := blk_frozen HGz2 2
  have hfz2_3 := blk_frozen HGz2 3
  clear HGz2 hgz2
  go_enter Try.func23, Try.ntmps23
  go_wp2
  go_ret
  exact ⟨by first | rfl | (simp [errW_none, errW_some] <;> rfl) | (simp [*, errW_none, errW_some] <;> rfl), by repeat (first | (with_reducible first | exact HI0.out | apply IsS49.alloc | apply IsS49.drewN | apply IsS49.drew | apply IsS49.set_0 | apply IsS49.set_2 | apply IsS49.set_3) | exact HI0.out), by repeat (first | (with_reducible first | exact HB.out | apply below_alloc | apply pw_below_drewN | apply below_drew1 | refine below_set ?_ (IsS49.ge HI0.out)) | exact HB.out), by repeat (first | (with_reducible first | exact HK.out | apply KeepBut.set_ | apply keep_drewN | apply keep_drew | apply keep_alloc) | exact HK.out)⟩
end Go.Proofs.Ytnmfmcjgjjanfaa.Pr
