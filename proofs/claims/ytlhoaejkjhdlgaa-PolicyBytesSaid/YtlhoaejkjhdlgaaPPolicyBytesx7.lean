-- PRINTED BY print.sh 35421559b90ae4d0a3588c463048766b98c2df88dd9212a6774a882060cdf62d: not written by this session
import Derived.Test.YtlhoaejkjhdlgaaPPolicyBytesx0
namespace Go.Proofs.Ytlhoaejkjhdlgaa.PPolicyBytes
open Go.RowKit Go.Proofs.YtlhoaejkjhdlgaaW.PrintWords Go.Proofs.YtlhoaejkjhdlgaaW.PrintLast Go.Proofs.YtlhoaejkjhdlgaaW.PrintMore
attribute [local go_sem] max2_int min2_int max_two min_two max_three min_three max_four min_four   -- for this text's walks alone
set_option linter.unusedVariables false
set_option linter.unusedSimpArgs false

/-! ### tinctureref7_MayPolicy: function 29 -/
mutual
def tinctureref7_MayPolicy.j0 : Nat → Bool → Bool → List (S70) → List (S71) → Option (Bool)
  | 0, _, _, _, _ => none
  | k + 1, x17, x201000, x201001, x201002 => if x17 = true then (some false) else (tinctureref7_MayPolicy.l0 k 0 x201000 x201001 x201002)
def tinctureref7_MayPolicy.l0 : Nat → Int → Bool → List (S70) → List (S71) → Option (Bool)
  | 0, _, _, _, _ => none
  | k + 1, x3, x201000, x201001, x201002 => if x3 < (x201001.length : Int) then (if 0 ≤ x3 then (if ((rd_T70 x201001 x3).f0) = 1 then (if ((rd_T70 x201001 x3).f3) = 0 then (some false) else (if (((rd_T70 x201001 x3).f2) = 0) then (tinctureref7_MayPolicy.l0 k (wrap64 (x3 + 1)) x201000 x201001 x201002) else (some false))) else (if ((rd_T70 x201001 x3).f0) = 2 then (tinctureref7_MayPolicy.j2 k x3 (((rd_T70 x201001 x3).f3) != 0) ((rd_T70 x201001 x3).f0) (((rd_T70 x201001 x3).f0) == 2) x201000 x201001 x201002 ((rd_T70 x201001 x3).f0) ((rd_T70 x201001 x3).f1) ((rd_T70 x201001 x3).f2) ((rd_T70 x201001 x3).f3)) else (if ((rd_T70 x201001 x3).f0) = 3 then (tinctureref7_MayPolicy.j2 k x3 (((rd_T70 x201001 x3).f3) != 0) ((rd_T70 x201001 x3).f0) (((rd_T70 x201001 x3).f0) == 3) x201000 x201001 x201002 ((rd_T70 x201001 x3).f0) ((rd_T70 x201001 x3).f1) ((rd_T70 x201001 x3).f2) ((rd_T70 x201001 x3).f3)) else (tinctureref7_MayPolicy.j2 k x3 (((rd_T70 x201001 x3).f3) != 0) ((rd_T70 x201001 x3).f0) (((rd_T70 x201001 x3).f0) == 5) x201000 x201001 x201002 ((rd_T70 x201001 x3).f0) ((rd_T70 x201001 x3).f1) ((rd_T70 x201001 x3).f2) ((rd_T70 x201001 x3).f3))))) else (none)) else (tinctureref7_MayPolicy.l1 k 0 x201000 x201001 x201002)
def tinctureref7_MayPolicy.j2 : Nat → Int → Bool → Int → Bool → Bool → List (S70) → List (S71) → Int → Int → Int → Int → Option (Bool)
  | 0, _, _, _, _, _, _, _, _, _, _, _ => none
  | k + 1, x3, x5, x34, x43, x201000, x201001, x201002, x203000, x203001, x203002, x203003 => if x43 = true then (if x5 = true then (if x203001 = 0 then (if x203002 = 0 then (tinctureref7_MayPolicy.l0 k (wrap64 (x3 + 1)) x201000 x201001 x201002) else (some false)) else (some false)) else (some false)) else (if x34 = 4 then (if x5 = true then (if x203002 = 0 then (some false) else (if ((wrap64 ((wrap64 (x203001)) + (wrap64 (x203002)))) ≤ 4294967296) then (tinctureref7_MayPolicy.l0 k (wrap64 (x3 + 1)) x201000 x201001 x201002) else (some false))) else (some false)) else (some false))
def tinctureref7_MayPolicy.l1 : Nat → Int → Bool → List (S70) → List (S71) → Option (Bool)
  | 0, _, _, _, _ => none
  | k + 1, x6, x201000, x201001, x201002 => if x6 < (x201002.length : Int) then (if 0 ≤ x6 then (if ((rd_T71 x201002 x6).f0) < 1 then (some false) else (if ((rd_T71 x201002 x6).f0) > 5 then (some false) else (if ((rd_T71 x201002 x6).f2) = 0 then (some false) else (if ((rd_T71 x201002 x6).f1) < 0 then (some false) else (if ((rd_T71 x201002 x6).f0) = 4 then (if ((rd_T71 x201002 x6).f1) > 6 then (some false) else (tinctureref7_MayPolicy.l1 k (wrap64 (x6 + 1)) x201000 x201001 x201002)) else (if ((rd_T71 x201002 x6).f1) = 0 then (tinctureref7_MayPolicy.l1 k (wrap64 (x6 + 1)) x201000 x201001 x201002) else (some false))))))) else (none)) else (some true)
end
def tinctureref7_MayPolicy.f (k : Nat) (a0_0 : Bool) (l0_1 : List (S70)) (l0_2 : List (S71)) : Option (Bool) := if (l0_1.length : Int) > 32 then (tinctureref7_MayPolicy.j0 k true a0_0 l0_1 l0_2) else (tinctureref7_MayPolicy.j0 k (decide ((l0_2.length : Int) > 32)) a0_0 l0_1 l0_2)
theorem tinctureref7_MayPolicy.mono_l : ∀ k, (∀ y0 y1 y2 y3, LeO (tinctureref7_MayPolicy.j0 k y0 y1 y2 y3) (tinctureref7_MayPolicy.j0 (k + 1) y0 y1 y2 y3)) ∧ (∀ y0 y1 y2 y3, LeO (tinctureref7_MayPolicy.l0 k y0 y1 y2 y3) (tinctureref7_MayPolicy.l0 (k + 1) y0 y1 y2 y3)) ∧ (∀ y0 y1 y2 y3 y4 y5 y6 y7 y8 y9 y10, LeO (tinctureref7_MayPolicy.j2 k y0 y1 y2 y3 y4 y5 y6 y7 y8 y9 y10) (tinctureref7_MayPolicy.j2 (k + 1) y0 y1 y2 y3 y4 y5 y6 y7 y8 y9 y10)) ∧ (∀ y0 y1 y2 y3, LeO (tinctureref7_MayPolicy.l1 k y0 y1 y2 y3) (tinctureref7_MayPolicy.l1 (k + 1) y0 y1 y2 y3))
  | 0 => ⟨fun _ _ _ _ r h => by simp [tinctureref7_MayPolicy.j0] at h, fun _ _ _ _ r h => by simp [tinctureref7_MayPolicy.l0] at h, fun _ _ _ _ _ _ _ _ _ _ _ r h => by simp [tinctureref7_MayPolicy.j2] at h, fun _ _ _ _ r h => by simp [tinctureref7_MayPolicy.l1] at h⟩
  | k + 1 => by
    obtain ⟨ih0, ih1, ih2, ih3⟩ := tinctureref7_MayPolicy.mono_l k
    refine ⟨?_, ?_, ?_, ?_⟩
    · intro y0 y1 y2 y3
      unfold tinctureref7_MayPolicy.j0
      repeat' first
      | (with_reducible exact ih0 _ _ _ _)
      | (with_reducible exact ih1 _ _ _ _)
      | (with_reducible exact ih2 _ _ _ _ _ _ _ _ _ _ _)
      | (with_reducible exact ih3 _ _ _ _)
      | (with_reducible exact LeO.refl _)
      | (with_reducible exact LeO.none _)
      | (with_reducible refine LeO.ite ?_ ?_)
      | (with_reducible refine LeO.bind ?_ (fun _ => ?_))
      | exact ih0 _ _ _ _
      | exact ih1 _ _ _ _
      | exact ih2 _ _ _ _ _ _ _ _ _ _ _
      | exact ih3 _ _ _ _
      | exact LeO.none _
      | refine LeO.ite ?_ ?_
      | refine LeO.bind ?_ (fun _ => ?_)
    · intro y0 y1 y2 y3
      unfold tinctureref7_MayPolicy.l0
      repeat' first
      | (with_reducible exact ih0 _ _ _ _)
      | (with_reducible exact ih1 _ _ _ _)
      | (with_reducible exact ih2 _ _ _ _ _ _ _ _ _ _ _)
      | (with_reducible exact ih3 _ _ _ _)
      | (with_reducible exact LeO.refl _)
      | (with_reducible exact LeO.none _)
      | (with_reducible refine LeO.ite ?_ ?_)
      | (with_reducible refine LeO.bind ?_ (fun _ => ?_))
      | exact ih0 _ _ _ _
      | exact ih1 _ _ _ _
      | exact ih2 _ _ _ _ _ _ _ _ _ _ _
      | exact ih3 _ _ _ _
      | exact LeO.none _
      | refine LeO.ite ?_ ?_
      | refine LeO.bind ?_ (fun _ => ?_)
    · intro y0 y1 y2 y3 y4 y5 y6 y7 y8 y9 y10
      unfold tinctureref7_MayPolicy.j2
      repeat' first
      | (with_reducible exact ih0 _ _ _ _)
      | (with_reducible exact ih1 _ _ _ _)
      | (with_reducible exact ih2 _ _ _ _ _ _ _ _ _ _ _)
      | (with_reducible exact ih3 _ _ _ _)
      | (with_reducible exact LeO.refl _)
      | (with_reducible exact LeO.none _)
      | (with_reducible refine LeO.ite ?_ ?_)
      | (with_reducible refine LeO.bind ?_ (fun _ => ?_))
      | exact ih0 _ _ _ _
      | exact ih1 _ _ _ _
      | exact ih2 _ _ _ _ _ _ _ _ _ _ _
      | exact ih3 _ _ _ _
      | exact LeO.none _
      | refine LeO.ite ?_ ?_
      | refine LeO.bind ?_ (fun _ => ?_)
    · intro y0 y1 y2 y3
      unfold tinctureref7_MayPolicy.l1
      repeat' first
      | (with_reducible exact ih0 _ _ _ _)
      | (with_reducible exact ih1 _ _ _ _)
      | (with_reducible exact ih2 _ _ _ _ _ _ _ _ _ _ _)
      | (with_reducible exact ih3 _ _ _ _)
      | (with_reducible exact LeO.refl _)
      | (with_reducible exact LeO.none _)
      | (with_reducible refine LeO.ite ?_ ?_)
      | (with_reducible refine LeO.bind ?_ (fun _ => ?_))
      | exact ih0 _ _ _ _
      | exact ih1 _ _ _ _
      | exact ih2 _ _ _ _ _ _ _ _ _ _ _
      | exact ih3 _ _ _ _
      | exact LeO.none _
      | refine LeO.ite ?_ ?_
      | refine LeO.bind ?_ (fun _ => ?_)
theorem tinctureref7_MayPolicy.mono : ∀ a0 a1 a2 k, LeO (tinctureref7_MayPolicy.f k a0 a1 a2) (tinctureref7_MayPolicy.f (k + 1) a0 a1 a2) := by
  intro a0 a1 a2 k
  obtain ⟨ih0, ih1, ih2, ih3⟩ := tinctureref7_MayPolicy.mono_l k
  unfold tinctureref7_MayPolicy.f
  repeat' first
      | (with_reducible exact ih0 _ _ _ _)
      | (with_reducible exact ih1 _ _ _ _)
      | (with_reducible exact ih2 _ _ _ _ _ _ _ _ _ _ _)
      | (with_reducible exact ih3 _ _ _ _)
      | (with_reducible exact LeO.refl _)
      | (with_reducible exact LeO.none _)
      | (with_reducible refine LeO.ite ?_ ?_)
      | (with_reducible refine LeO.bind ?_ (fun _ => ?_))
      | exact ih0 _ _ _ _
      | exact ih1 _ _ _ _
      | exact ih2 _ _ _ _ _ _ _ _ _ _ _
      | exact ih3 _ _ _ _
      | exact LeO.none _
      | refine LeO.ite ?_ ?_
      | refine LeO.bind ?_ (fun _ => ?_)
set_option maxHeartbeats 8000000 in
set_option maxRecDepth 100000 in
theorem tinctureref7_MayPolicy.calls (k : Nat) (a0_0 : Bool) (A0_1 : Option Addr) (c0_1 : Nat) (l0_1 : List (S70)) (A0_2 : Option Addr) (c0_2 : Nat) (l0_2 : List (S71)) (r : Bool) (w : World) (hr0_1 : Kd.C k70 w A0_1 l0_1.length l0_1) (hc0_1 : l0_1.length ≤ c0_1) (hr0_2 : Kd.C k71 w A0_2 l0_2.length l0_2) (hc0_2 : l0_2.length ≤ c0_2) (h : tinctureref7_MayPolicy.f k a0_0 l0_1 l0_2 = some r) :
    Calls Try.prog 29 #[.agg #[.bool a0_0, .slice A0_1 l0_1.length c0_1, .slice A0_2 l0_2.length c0_2]] w fun e w' => e = .returned (.bool r) ∧ Below w.heap.size w w' := by
  have hu46 := Try.underlying46
  have hu70 := Try.underlying70
  have hu71 := Try.underlying71
  have HR0_1 := Aside0.mk hr0_1
  have HC0_1 := Aside0.mk hc0_1
  clear hr0_1 hc0_1
  have HR0_2 := Aside0.mk hr0_2
  have HC0_2 := Aside0.mk hc0_2
  clear hr0_2 hc0_2
  have HB := Aside0.mk (Below.refl w.heap.size w)
  have H : (if (l0_1.length : Int) > 32 then (tinctureref7_MayPolicy.j0 k true a0_0 l0_1 l0_2) else (tinctureref7_MayPolicy.j0 k (decide ((l0_2.length : Int) > 32)) a0_0 l0_1 l0_2)) = some r := h
  clear h
  have HC2 := Aside0.mk H
  clear H
  go_enter Try.func29, Try.ntmps29
  go_upto_region 1 with (first | ((with_reducible refine gate_dst (N := 1) rfl ?_); (try (refine gate_guard (by rfl) ?_; dsimp only)); refine box_event ?hg (N := 1) ?hd (cs := #[.bool a0_0, .slice A0_1 l0_1.length c0_1, .slice A0_2 l0_2.length c0_2]) (t := 46) ?hr ?_; (case hd => rfl); (case hg => rfl); (case hr => first | (go_simp; done) | (go_simp; rfl)); intro gb200 hg w3 hbox hb; have n0_ := Aside0.mk (below_step (by repeat (first | (with_reducible first | exact HB.out | apply below_alloc | apply pw_below_drewN | apply below_drew1) | exact HB.out)) hb); have n1_ := Aside0.mk (hbox); have n2_ := Aside0.mk ((by rw [hg]; exact (below_size (by repeat (first | (with_reducible first | exact HB.out | apply below_alloc | apply pw_below_drewN | apply below_drew1) | exact HB.out))) : w.heap.size ≤ gb200)); have n3_ := Aside0.mk ((by rw [hg]; exact (below_size (by repeat (first | (with_reducible first | exact HB.out | apply below_alloc | apply pw_below_drewN | apply below_drew1) | exact HB.out))) : w.heap.size ≤ gb200)); clear HB; have HB := n0_; have BK200 := n1_; have GW200 := n2_; have GE200 := n3_; clear n0_ n1_ n2_ n3_; clear hb hbox hg))
  (try simp only [Act.put, List.setIfInBounds_toArray, List.set_cons_zero, List.set_cons_succ])
  go_cut [17] (fun v17 wc => ∃ (kq : Nat) (x17_1 : Bool), v17 = .bool x17_1 ∧ Aside0 (tinctureref7_MayPolicy.j0 kq x17_1 a0_0 l0_1 l0_2 = some r) ∧ Aside0 (kq ≤ k) ∧ Aside0 (wc.heap[gb200]? = some (.cells #[.bool a0_0, (.slice A0_1 l0_1.length c0_1), (.slice A0_2 l0_2.length c0_2)] 46 (0, 0))) ∧ Aside0 (Below w.heap.size w wc))
  case first =>
    have H := HC2.out
    clear HC2
    by_cases c4 : (l0_1.length : Int) > 32
    · rw [if_pos c4] at H
      have c4b0 : decide (32 < (l0_1.length : Int)) = true := decide_eq_true c4
      have c4b1 : decide (32 < l0_1.length) = true := decide_eq_true (by omega)
      clear c4
      (first | rw [c4b0] | (simp only [i64_w, i32_w]; rw [c4b0]) | skip)
      have H' := Aside0.mk H
      clear H
      have hcz5_0 : w3.cell? ⟨gb200, 0, none⟩ = some (.bool a0_0) := (blk_cell BK200.out 0).trans rfl
      have hcz5_1 : w3.cell? ⟨gb200, 1, none⟩ = some (.slice A0_1 l0_1.length c0_1) := (blk_cell BK200.out 1).trans rfl
      have hcz5_2 : w3.cell? ⟨gb200, 2, none⟩ = some (.slice A0_2 l0_2.length c0_2) := (blk_cell BK200.out 2).trans rfl
      have hfz5_0 := blk_frozen BK200.out 0
      have hfz5_1 := blk_frozen BK200.out 1
      have hfz5_2 := blk_frozen BK200.out 2
      go_wp2
      go_meet
      case rel => exact ⟨_, (true), (by first | rfl | (simp; done) | (simp [*]; done)), H', ⟨by first | omega | exact Nat.le_refl _⟩, ⟨by (with_reducible repeat (first | refine blk_drewN ?_ _ | refine blk_drew ?_ | refine blk_alloc ?_ _)); exact BK200.out⟩, ⟨by repeat (first | (with_reducible first | exact HB.out | apply below_alloc | apply pw_below_drewN | apply below_drew1 | refine below_set ?_ GE200.out) | exact HB.out)⟩⟩
    · rw [if_neg c4] at H
      have c4b0 : decide (32 < (l0_1.length : Int)) = false := decide_eq_false c4
      have c4b1 : decide (32 < l0_1.length) = false := decide_eq_false (by omega)
      clear c4
      (first | rw [c4b0] | (simp only [i64_w, i32_w]; rw [c4b0]) | skip)
      have H' := Aside0.mk H
      clear H
      have hcz6_0 : w3.cell? ⟨gb200, 0, none⟩ = some (.bool a0_0) := (blk_cell BK200.out 0).trans rfl
      have hcz6_1 : w3.cell? ⟨gb200, 1, none⟩ = some (.slice A0_1 l0_1.length c0_1) := (blk_cell BK200.out 1).trans rfl
      have hcz6_2 : w3.cell? ⟨gb200, 2, none⟩ = some (.slice A0_2 l0_2.length c0_2) := (blk_cell BK200.out 2).trans rfl
      have hfz6_0 := blk_frozen BK200.out 0
      have hfz6_1 := blk_frozen BK200.out 1
      have hfz6_2 := blk_frozen BK200.out 2
      go_wp2
      go_meet
      case rel => exact ⟨_, (decide ((l0_2.length : Int) > 32)), (by first | rfl | (simp; done) | (simp [*]; done)), H', ⟨by first | omega | exact Nat.le_refl _⟩, ⟨by (with_reducible repeat (first | refine blk_drewN ?_ _ | refine blk_drew ?_ | refine blk_alloc ?_ _)); exact BK200.out⟩, ⟨by repeat (first | (with_reducible first | exact HB.out | apply below_alloc | apply pw_below_drewN | apply below_drew1 | refine below_set ?_ GE200.out) | exact HB.out)⟩⟩
  case rest =>
    clear HC2
    try clear c2
    try clear p2
    try clear c4
    try clear c4b0
    try clear c4b1
    try clear hcz5_0
    try clear hcz5_1
    try clear hcz5_2
    try clear hcz6_0
    try clear hcz6_1
    try clear hcz6_2
    try clear hfz5_0
    try clear hfz5_1
    try clear hfz5_2
    try clear hfz6_0
    try clear hfz6_1
    try clear hfz6_2
    obtain ⟨kq, x17_1, rfl, HA, HJ1, BK200, HB⟩ := hcut
    cases kq with
    | zero => exact absurd HA.out (by simp [tinctureref7_MayPolicy.j0])
    | succ kj1 =>
      have H := HA.out
      clear HA
      simp only [tinctureref7_MayPolicy.j0] at H
      by_cases c7 : x17_1 = true
      · subst c7
        have H1 : (some false) = some r := by rw [if_pos rfl] at H; exact H
        clear H
        have H := H1
        clear H1
        obtain rfl := Option.some.inj H
        go_wp2
        go_ret
        exact ⟨by first | rfl | (simp [errW_none, errW_some] <;> rfl) | (simp [*, errW_none, errW_some] <;> rfl), by repeat (first | (with_reducible first | exact HB.out | apply below_alloc | apply pw_below_drewN | apply below_drew1 | refine below_set ?_ GE200.out) | exact HB.out)⟩
      · replace c7 := Bool.eq_false_iff.mpr c7
        subst c7
        have H1 : (tinctureref7_MayPolicy.l0 kj1 0 a0_0 l0_1 l0_2) = some r := by rw [if_neg (show ¬ (false = true) by decide)] at H; exact H
        clear H
        have H := H1
        clear H1
        have H' := Aside0.mk H
        clear H
        go_wp2
        go_loopg [3] kj1 (fun kq v3 w' => ∃ (x3_2 : Int), v3 = .int .i64 x3_2 ∧ Aside0 (tinctureref7_MayPolicy.l0 kq x3_2 a0_0 l0_1 l0_2 = some r) ∧ Aside0 (kq ≤ kj1) ∧ Aside0 (w'.heap[gb200]? = some (.cells #[.bool a0_0, (.slice A0_1 l0_1.length c0_1), (.slice A0_2 l0_2.length c0_2)] 46 (0, 0))) ∧ Aside0 (Below w.heap.size w w'))
        case atStart => exact ⟨(0), (by first | rfl | (simp; done) | (simp [*]; done)), H', ⟨Nat.le_refl _⟩, ⟨by (with_reducible repeat (first | refine blk_drewN ?_ _ | refine blk_drew ?_ | refine blk_alloc ?_ _)); exact BK200.out⟩, ⟨by repeat (first | (with_reducible first | exact HB.out | apply below_alloc | apply pw_below_drewN | apply below_drew1 | refine below_set ?_ GE200.out) | exact HB.out)⟩⟩
        case round =>
          clear H'
          try clear c2
          try clear p2
          try clear c4
          try clear c4b0
          try clear c4b1
          try clear c7
          try clear hcz5_0
          try clear hcz5_1
          try clear hcz5_2
          try clear hcz6_0
          try clear hcz6_1
          try clear hcz6_2
          try clear hfz5_0
          try clear hfz5_1
          try clear hfz5_2
          try clear hfz6_0
          try clear hfz6_1
          try clear hfz6_2
          try clear p2
          obtain ⟨x3_2, rfl, HA, HK2, BK200, HB⟩ := hrel
          cases gk with
          | zero => exact absurd HA.out (by simp [tinctureref7_MayPolicy.l0])
          | succ k2 =>
            have H := HA.out
            clear HA
            simp only [tinctureref7_MayPolicy.l0] at H
            by_cases c8 : x3_2 < (l0_1.length : Int)
            · rw [if_pos c8] at H
              have c8b0 : decide (x3_2 < (l0_1.length : Int)) = true := decide_eq_true c8
              clear c8
              by_cases c9 : 0 ≤ x3_2
              · rw [if_pos c9] at H
                have c9b0 : decide (0 ≤ x3_2) = true := decide_eq_true c9
                clear c9
                by_cases c10 : ((rd_T70 l0_1 x3_2).f0) = 1
                · rw [if_pos c10] at H
                  have c10b0 : (((rd_T70 l0_1 x3_2).f0) == 1) = true := beq_iff_eq.mpr c10
                  have c10b1 : (((rd_T70 l0_1 x3_2).f0) != 1) = false := bne_eq_false_iff_eq.mpr c10
                  clear c10
                  by_cases c11 : ((rd_T70 l0_1 x3_2).f3) = 0
                  · rw [if_pos c11] at H
                    have c11b0 : (((rd_T70 l0_1 x3_2).f3) == 0) = true := beq_iff_eq.mpr c11
                    have c11b1 : (((rd_T70 l0_1 x3_2).f3) != 0) = false := bne_eq_false_iff_eq.mpr c11
                    clear c11
                    obtain rfl := Option.some.inj H
                    have hcz12_0 : wr.cell? ⟨gb200, 0, none⟩ = some (.bool a0_0) := (blk_cell BK200.out 0).trans rfl
                    have hcz12_1 : wr.cell? ⟨gb200, 1, none⟩ = some (.slice A0_1 l0_1.length c0_1) := (blk_cell BK200.out 1).trans rfl
                    have hcz12_2 : wr.cell? ⟨gb200, 2, none⟩ = some (.slice A0_2 l0_2.length c0_2) := (blk_cell BK200.out 2).trans rfl
                    have hfz12_0 := blk_frozen BK200.out 0
                    have hfz12_1 := blk_frozen BK200.out 1
                    have hfz12_2 := blk_frozen BK200.out 2
                    have p201 : 0 ≤ (x3_2 : Int) := of_decide_eq_true (by first | (with_reducible assumption) | assumption)
                    have q201 : x3_2 < (l0_1.length : Int) := of_decide_eq_true (by first | (with_reducible assumption) | assumption)
                    obtain ⟨ad201, e201, hx201_0, hx201_1, hx201_2, hx201_3⟩ := at_T70 HR0_1.out x3_2 p201 q201
                    cases e201
                    replace hx201_0 := (HB.out.cell (World.block_lt_of_cell? w _ hx201_0)).trans hx201_0
                    replace hx201_1 := (HB.out.cell (World.block_lt_of_cell? w _ hx201_1)).trans hx201_1
                    replace hx201_2 := (HB.out.cell (World.block_lt_of_cell? w _ hx201_2)).trans hx201_2
                    replace hx201_3 := (HB.out.cell (World.block_lt_of_cell? w _ hx201_3)).trans hx201_3
                    replace p201 := eq_true p201
                    replace q201 := eq_true q201
                    go_wp2_with (first | ((with_reducible refine gate_dst (N := 4) rfl ?_); (try (refine gate_guard (by rfl) ?_; dsimp only)); refine box_event ?hg (N := 4) ?hd (cs := #[.int .i64 0, .int .u32 0, .int .u32 0, .int .u8 0]) (t := 70) ?hr ?_; (case hd => rfl); (case hg => rfl); (case hr => first | (go_simp; done) | (go_simp; rfl)); intro gb202 hg w13 hbox hb; have n0_ := Aside0.mk (blk_below (g := gb200) (o := .cells #[.bool a0_0, .slice (some ad201) l0_1.length c0_1, .slice A0_2 l0_2.length c0_2] 46 (0, 0)) (by (with_reducible repeat (first | refine blk_drewN ?_ _ | refine blk_drew ?_ | refine blk_alloc ?_ _)); exact BK200.out) hb); have n1_ := Aside0.mk (below_step (by repeat (first | (with_reducible first | exact HB.out | apply below_alloc | apply pw_below_drewN | apply below_drew1 | refine below_set ?_ GE200.out) | exact HB.out)) hb); have n2_ := Aside0.mk (hbox); have n3_ := Aside0.mk ((by rw [hg]; exact (below_size (by repeat (first | (with_reducible first | exact HB.out | apply below_alloc | apply pw_below_drewN | apply below_drew1 | refine below_set ?_ GE200.out) | exact HB.out))) : w.heap.size ≤ gb202)); have n4_ := Aside0.mk ((by rw [hg]; exact (below_size (by repeat (first | (with_reducible first | exact HB.out | apply below_alloc | apply pw_below_drewN | apply below_drew1 | refine below_set ?_ GE200.out) | exact HB.out))) : w.heap.size ≤ gb202)); have n5_ := Aside0.mk ((by rw [hg]; exact Nat.ne_of_lt (blk_lt (g := gb200) (o := .cells #[.bool a0_0, .slice (some ad201) l0_1.length c0_1, .slice A0_2 l0_2.length c0_2] 46 (0, 0)) (by (with_reducible repeat (first | refine blk_drewN ?_ _ | refine blk_drew ?_ | refine blk_alloc ?_ _)); exact BK200.out)) : gb200 ≠ gb202)); have n6_ := Aside0.mk ((by rw [hg]; exact Nat.ne_of_gt (blk_lt (g := gb200) (o := .cells #[.bool a0_0, .slice (some ad201) l0_1.length c0_1, .slice A0_2 l0_2.length c0_2] 46 (0, 0)) (by (with_reducible repeat (first | refine blk_drewN ?_ _ | refine blk_drew ?_ | refine blk_alloc ?_ _)); exact BK200.out)) : gb202 ≠ gb200)); clear BK200; clear HB; have BK200 := n0_; have HB := n1_; have BK202 := n2_; have GW202 := n3_; have GE202 := n4_; have NB200_202 := n5_; have NB202_200 := n6_; clear n0_ n1_ n2_ n3_ n4_ n5_ n6_; clear hb hbox hg; have hnb14 := NB202_200.out; have hnc14 := NB200_202.out; have hcz15_0 : w13.cell? ⟨gb202, 0, none⟩ = some (.int .i64 0) := (blk_cell BK202.out 0).trans rfl; have hcz15_1 : w13.cell? ⟨gb202, 1, none⟩ = some (.int .u32 0) := (blk_cell BK202.out 1).trans rfl; have hcz15_2 : w13.cell? ⟨gb202, 2, none⟩ = some (.int .u32 0) := (blk_cell BK202.out 2).trans rfl; have hcz15_3 : w13.cell? ⟨gb202, 3, none⟩ = some (.int .u8 0) := (blk_cell BK202.out 3).trans rfl; have hfz15_0 := blk_frozen BK202.out 0; have hfz15_1 := blk_frozen BK202.out 1; have hfz15_2 := blk_frozen BK202.out 2; have hfz15_3 := blk_frozen BK202.out 3))
                    go_ret
                    exact ⟨by first | rfl | (simp [errW_none, errW_some] <;> rfl) | (simp [*, errW_none, errW_some] <;> rfl), by repeat (first | (with_reducible first | exact HB.out | apply below_alloc | apply pw_below_drewN | apply below_drew1 | refine below_set ?_ GE200.out | refine below_set ?_ GE202.out) | exact HB.out)⟩
                  · rw [if_neg c11] at H
                    have c11b0 : (((rd_T70 l0_1 x3_2).f3) == 0) = false := beq_eq_false_iff_ne.mpr c11
                    have c11b1 : (((rd_T70 l0_1 x3_2).f3) != 0) = true := bne_iff_ne.mpr c11
                    by_cases c16 : (((rd_T70 l0_1 x3_2).f2) = 0)
                    · rw [if_pos c16] at H
                      have c16b0 : (((rd_T70 l0_1 x3_2).f2) == 0) = true := beq_iff_eq.mpr c16
                      have c16b1 : (((rd_T70 l0_1 x3_2).f2) != 0) = false := bne_eq_false_iff_eq.mpr c16
                      clear c16
                      have H' := Aside0.mk H
                      clear H
                      have hcz17_0 : wr.cell? ⟨gb200, 0, none⟩ = some (.bool a0_0) := (blk_cell BK200.out 0).trans rfl
                      have hcz17_1 : wr.cell? ⟨gb200, 1, none⟩ = some (.slice A0_1 l0_1.length c0_1) := (blk_cell BK200.out 1).trans rfl
                      have hcz17_2 : wr.cell? ⟨gb200, 2, none⟩ = some (.slice A0_2 l0_2.length c0_2) := (blk_cell BK200.out 2).trans rfl
                      have hfz17_0 := blk_frozen BK200.out 0
                      have hfz17_1 := blk_frozen BK200.out 1
                      have hfz17_2 := blk_frozen BK200.out 2
                      have p201 : 0 ≤ (x3_2 : Int) := of_decide_eq_true (by first | (with_reducible assumption) | assumption)
                      have q201 : x3_2 < (l0_1.length : Int) := of_decide_eq_true (by first | (with_reducible assumption) | assumption)
                      obtain ⟨ad201, e201, hx201_0, hx201_1, hx201_2, hx201_3⟩ := at_T70 HR0_1.out x3_2 p201 q201
                      cases e201
                      replace hx201_0 := (HB.out.cell (World.block_lt_of_cell? w _ hx201_0)).trans hx201_0
                      replace hx201_1 := (HB.out.cell (World.block_lt_of_cell? w _ hx201_1)).trans hx201_1
                      replace hx201_2 := (HB.out.cell (World.block_lt_of_cell? w _ hx201_2)).trans hx201_2
                      replace hx201_3 := (HB.out.cell (World.block_lt_of_cell? w _ hx201_3)).trans hx201_3
                      replace p201 := eq_true p201
                      replace q201 := eq_true q201
                      go_wp2_with (first | ((with_reducible refine gate_dst (N := 4) rfl ?_); (try (refine gate_guard (by rfl) ?_; dsimp only)); refine box_event ?hg (N := 4) ?hd (cs := #[.int .i64 0, .int .u32 0, .int .u32 0, .int .u8 0]) (t := 70) ?hr ?_; (case hd => rfl); (case hg => rfl); (case hr => first | (go_simp; done) | (go_simp; rfl)); intro gb202 hg w18 hbox hb; have n0_ := Aside0.mk (blk_below (g := gb200) (o := .cells #[.bool a0_0, .slice (some ad201) l0_1.length c0_1, .slice A0_2 l0_2.length c0_2] 46 (0, 0)) (by (with_reducible repeat (first | refine blk_drewN ?_ _ | refine blk_drew ?_ | refine blk_alloc ?_ _)); exact BK200.out) hb); have n1_ := Aside0.mk (below_step (by repeat (first | (with_reducible first | exact HB.out | apply below_alloc | apply pw_below_drewN | apply below_drew1 | refine below_set ?_ GE200.out) | exact HB.out)) hb); have n2_ := Aside0.mk (hbox); have n3_ := Aside0.mk ((by rw [hg]; exact (below_size (by repeat (first | (with_reducible first | exact HB.out | apply below_alloc | apply pw_below_drewN | apply below_drew1 | refine below_set ?_ GE200.out) | exact HB.out))) : w.heap.size ≤ gb202)); have n4_ := Aside0.mk ((by rw [hg]; exact (below_size (by repeat (first | (with_reducible first | exact HB.out | apply below_alloc | apply pw_below_drewN | apply below_drew1 | refine below_set ?_ GE200.out) | exact HB.out))) : w.heap.size ≤ gb202)); have n5_ := Aside0.mk ((by rw [hg]; exact Nat.ne_of_lt (blk_lt (g := gb200) (o := .cells #[.bool a0_0, .slice (some ad201) l0_1.length c0_1, .slice A0_2 l0_2.length c0_2] 46 (0, 0)) (by (with_reducible repeat (first | refine blk_drewN ?_ _ | refine blk_drew ?_ | refine blk_alloc ?_ _)); exact BK200.out)) : gb200 ≠ gb202)); have n6_ := Aside0.mk ((by rw [hg]; exact Nat.ne_of_gt (blk_lt (g := gb200) (o := .cells #[.bool a0_0, .slice (some ad201) l0_1.length c0_1, .slice A0_2 l0_2.length c0_2] 46 (0, 0)) (by (with_reducible repeat (first | refine blk_drewN ?_ _ | refine blk_drew ?_ | refine blk_alloc ?_ _)); exact BK200.out)) : gb202 ≠ gb200)); clear BK200; clear HB; have BK200 := n0_; have HB := n1_; have BK202 := n2_; have GW202 := n3_; have GE202 := n4_; have NB200_202 := n5_; have NB202_200 := n6_; clear n0_ n1_ n2_ n3_ n4_ n5_ n6_; clear hb hbox hg; have hnb19 := NB202_200.out; have hnc19 := NB200_202.out; have hcz20_0 : w18.cell? ⟨gb202, 0, none⟩ = some (.int .i64 0) := (blk_cell BK202.out 0).trans rfl; have hcz20_1 : w18.cell? ⟨gb202, 1, none⟩ = some (.int .u32 0) := (blk_cell BK202.out 1).trans rfl; have hcz20_2 : w18.cell? ⟨gb202, 2, none⟩ = some (.int .u32 0) := (blk_cell BK202.out 2).trans rfl; have hcz20_3 : w18.cell? ⟨gb202, 3, none⟩ = some (.int .u8 0) := (blk_cell BK202.out 3).trans rfl; have hfz20_0 := blk_frozen BK202.out 0; have hfz20_1 := blk_frozen BK202.out 1; have hfz20_2 := blk_frozen BK202.out 2; have hfz20_3 := blk_frozen BK202.out 3))
                      go_roundg k2
                      case measure => have := HJ1.out; have := HK2.out; omega
                      case rel => exact ⟨(wrap64 (x3_2 + 1)), (by first | rfl | (simp; done) | (simp [*]; done)), H', ⟨by have := HJ1.out; have := HK2.out; omega⟩, ⟨by (with_reducible repeat (first | refine blk_drewN ?_ _ | refine blk_drew ?_ | refine blk_alloc ?_ _)); refine blk_far ?_ NB200_202.out _; (with_reducible repeat (first | refine blk_drewN ?_ _ | refine blk_drew ?_ | refine blk_alloc ?_ _)); refine blk_far ?_ NB200_202.out _; (with_reducible repeat (first | refine blk_drewN ?_ _ | refine blk_drew ?_ | refine blk_alloc ?_ _)); refine blk_far ?_ NB200_202.out _; (with_reducible repeat (first | refine blk_drewN ?_ _ | refine blk_drew ?_ | refine blk_alloc ?_ _)); refine blk_far ?_ NB200_202.out _; (with_reducible repeat (first | refine blk_drewN ?_ _ | refine blk_drew ?_ | refine blk_alloc ?_ _)); exact BK200.out⟩, ⟨by repeat (first | (with_reducible first | exact HB.out | apply below_alloc | apply pw_below_drewN | apply below_drew1 | refine below_set ?_ GE200.out | refine below_set ?_ GE202.out) | exact HB.out)⟩⟩
                    · rw [if_neg c16] at H
                      have c16b0 : (((rd_T70 l0_1 x3_2).f2) == 0) = false := beq_eq_false_iff_ne.mpr c16
                      have c16b1 : (((rd_T70 l0_1 x3_2).f2) != 0) = true := bne_iff_ne.mpr c16
                      obtain rfl := Option.some.inj H
                      have hcz21_0 : wr.cell? ⟨gb200, 0, none⟩ = some (.bool a0_0) := (blk_cell BK200.out 0).trans rfl
                      have hcz21_1 : wr.cell? ⟨gb200, 1, none⟩ = some (.slice A0_1 l0_1.length c0_1) := (blk_cell BK200.out 1).trans rfl
                      have hcz21_2 : wr.cell? ⟨gb200, 2, none⟩ = some (.slice A0_2 l0_2.length c0_2) := (blk_cell BK200.out 2).trans rfl
                      have hfz21_0 := blk_frozen BK200.out 0
                      have hfz21_1 := blk_frozen BK200.out 1
                      have hfz21_2 := blk_frozen BK200.out 2
                      have p201 : 0 ≤ (x3_2 : Int) := of_decide_eq_true (by first | (with_reducible assumption) | assumption)
                      have q201 : x3_2 < (l0_1.length : Int) := of_decide_eq_true (by first | (with_reducible assumption) | assumption)
                      obtain ⟨ad201, e201, hx201_0, hx201_1, hx201_2, hx201_3⟩ := at_T70 HR0_1.out x3_2 p201 q201
                      cases e201
                      replace hx201_0 := (HB.out.cell (World.block_lt_of_cell? w _ hx201_0)).trans hx201_0
                      replace hx201_1 := (HB.out.cell (World.block_lt_of_cell? w _ hx201_1)).trans hx201_1
                      replace hx201_2 := (HB.out.cell (World.block_lt_of_cell? w _ hx201_2)).trans hx201_2
                      replace hx201_3 := (HB.out.cell (World.block_lt_of_cell? w _ hx201_3)).trans hx201_3
                      replace p201 := eq_true p201
                      replace q201 := eq_true q201
                      go_wp2_with (first | ((with_reducible refine gate_dst (N := 4) rfl ?_); (try (refine gate_guard (by rfl) ?_; dsimp only)); refine box_event ?hg (N := 4) ?hd (cs := #[.int .i64 0, .int .u32 0, .int .u32 0, .int .u8 0]) (t := 70) ?hr ?_; (case hd => rfl); (case hg => rfl); (case hr => first | (go_simp; done) | (go_simp; rfl)); intro gb202 hg w22 hbox hb; have n0_ := Aside0.mk (blk_below (g := gb200) (o := .cells #[.bool a0_0, .slice (some ad201) l0_1.length c0_1, .slice A0_2 l0_2.length c0_2] 46 (0, 0)) (by (with_reducible repeat (first | refine blk_drewN ?_ _ | refine blk_drew ?_ | refine blk_alloc ?_ _)); exact BK200.out) hb); have n1_ := Aside0.mk (below_step (by repeat (first | (with_reducible first | exact HB.out | apply below_alloc | apply pw_below_drewN | apply below_drew1 | refine below_set ?_ GE200.out) | exact HB.out)) hb); have n2_ := Aside0.mk (hbox); have n3_ := Aside0.mk ((by rw [hg]; exact (below_size (by repeat (first | (with_reducible first | exact HB.out | apply below_alloc | apply pw_below_drewN | apply below_drew1 | refine below_set ?_ GE200.out) | exact HB.out))) : w.heap.size ≤ gb202)); have n4_ := Aside0.mk ((by rw [hg]; exact (below_size (by repeat (first | (with_reducible first | exact HB.out | apply below_alloc | apply pw_below_drewN | apply below_drew1 | refine below_set ?_ GE200.out) | exact HB.out))) : w.heap.size ≤ gb202)); have n5_ := Aside0.mk ((by rw [hg]; exact Nat.ne_of_lt (blk_lt (g := gb200) (o := .cells #[.bool a0_0, .slice (some ad201) l0_1.length c0_1, .slice A0_2 l0_2.length c0_2] 46 (0, 0)) (by (with_reducible repeat (first | refine blk_drewN ?_ _ | refine blk_drew ?_ | refine blk_alloc ?_ _)); exact BK200.out)) : gb200 ≠ gb202)); have n6_ := Aside0.mk ((by rw [hg]; exact Nat.ne_of_gt (blk_lt (g := gb200) (o := .cells #[.bool a0_0, .slice (some ad201) l0_1.length c0_1, .slice A0_2 l0_2.length c0_2] 46 (0, 0)) (by (with_reducible repeat (first | refine blk_drewN ?_ _ | refine blk_drew ?_ | refine blk_alloc ?_ _)); exact BK200.out)) : gb202 ≠ gb200)); clear BK200; clear HB; have BK200 := n0_; have HB := n1_; have BK202 := n2_; have GW202 := n3_; have GE202 := n4_; have NB200_202 := n5_; have NB202_200 := n6_; clear n0_ n1_ n2_ n3_ n4_ n5_ n6_; clear hb hbox hg; have hnb23 := NB202_200.out; have hnc23 := NB200_202.out; have hcz24_0 : w22.cell? ⟨gb202, 0, none⟩ = some (.int .i64 0) := (blk_cell BK202.out 0).trans rfl; have hcz24_1 : w22.cell? ⟨gb202, 1, none⟩ = some (.int .u32 0) := (blk_cell BK202.out 1).trans rfl; have hcz24_2 : w22.cell? ⟨gb202, 2, none⟩ = some (.int .u32 0) := (blk_cell BK202.out 2).trans rfl; have hcz24_3 : w22.cell? ⟨gb202, 3, none⟩ = some (.int .u8 0) := (blk_cell BK202.out 3).trans rfl; have hfz24_0 := blk_frozen BK202.out 0; have hfz24_1 := blk_frozen BK202.out 1; have hfz24_2 := blk_frozen BK202.out 2; have hfz24_3 := blk_frozen BK202.out 3))
                      go_ret
                      exact ⟨by first | rfl | (simp [errW_none, errW_some] <;> rfl) | (simp [*, errW_none, errW_some] <;> rfl), by repeat (first | (with_reducible first | exact HB.out | apply below_alloc | apply pw_below_drewN | apply below_drew1 | refine below_set ?_ GE200.out | refine below_set ?_ GE202.out) | exact HB.out)⟩
                · rw [if_neg c10] at H
                  have c10b0 : (((rd_T70 l0_1 x3_2).f0) == 1) = false := beq_eq_false_iff_ne.mpr c10
                  have c10b1 : (((rd_T70 l0_1 x3_2).f0) != 1) = true := bne_iff_ne.mpr c10
                  have HC25 := Aside0.mk H
                  clear H
                  have hcz26_0 : wr.cell? ⟨gb200, 0, none⟩ = some (.bool a0_0) := (blk_cell BK200.out 0).trans rfl
                  have hcz26_1 : wr.cell? ⟨gb200, 1, none⟩ = some (.slice A0_1 l0_1.length c0_1) := (blk_cell BK200.out 1).trans rfl
                  have hcz26_2 : wr.cell? ⟨gb200, 2, none⟩ = some (.slice A0_2 l0_2.length c0_2) := (blk_cell BK200.out 2).trans rfl
                  have hfz26_0 := blk_frozen BK200.out 0
                  have hfz26_1 := blk_frozen BK200.out 1
                  have hfz26_2 := blk_frozen BK200.out 2
                  have p201 : 0 ≤ (x3_2 : Int) := of_decide_eq_true (by first | (with_reducible assumption) | assumption)
                  have q201 : x3_2 < (l0_1.length : Int) := of_decide_eq_true (by first | (with_reducible assumption) | assumption)
                  obtain ⟨ad201, e201, hx201_0, hx201_1, hx201_2, hx201_3⟩ := at_T70 HR0_1.out x3_2 p201 q201
                  cases e201
                  replace hx201_0 := (HB.out.cell (World.block_lt_of_cell? w _ hx201_0)).trans hx201_0
                  replace hx201_1 := (HB.out.cell (World.block_lt_of_cell? w _ hx201_1)).trans hx201_1
                  replace hx201_2 := (HB.out.cell (World.block_lt_of_cell? w _ hx201_2)).trans hx201_2
                  replace hx201_3 := (HB.out.cell (World.block_lt_of_cell? w _ hx201_3)).trans hx201_3
                  replace p201 := eq_true p201
                  replace q201 := eq_true q201
                  go_upto_if 43 with (first | ((with_reducible refine gate_dst (N := 4) rfl ?_); (try (refine gate_guard (by rfl) ?_; dsimp only)); refine box_event ?hg (N := 4) ?hd (cs := #[.int .i64 0, .int .u32 0, .int .u32 0, .int .u8 0]) (t := 70) ?hr ?_; (case hd => rfl); (case hg => rfl); (case hr => first | (go_simp; done) | (go_simp; rfl)); intro gb202 hg w27 hbox hb; have n0_ := Aside0.mk (blk_below (g := gb200) (o := .cells #[.bool a0_0, .slice (some ad201) l0_1.length c0_1, .slice A0_2 l0_2.length c0_2] 46 (0, 0)) (by (with_reducible repeat (first | refine blk_drewN ?_ _ | refine blk_drew ?_ | refine blk_alloc ?_ _)); exact BK200.out) hb); have n1_ := Aside0.mk (below_step (by repeat (first | (with_reducible first | exact HB.out | apply below_alloc | apply pw_below_drewN | apply below_drew1 | refine below_set ?_ GE200.out) | exact HB.out)) hb); have n2_ := Aside0.mk (hbox); have n3_ := Aside0.mk ((by rw [hg]; exact (below_size (by repeat (first | (with_reducible first | exact HB.out | apply below_alloc | apply pw_below_drewN | apply below_drew1 | refine below_set ?_ GE200.out) | exact HB.out))) : w.heap.size ≤ gb202)); have n4_ := Aside0.mk ((by rw [hg]; exact (below_size (by repeat (first | (with_reducible first | exact HB.out | apply below_alloc | apply pw_below_drewN | apply below_drew1 | refine below_set ?_ GE200.out) | exact HB.out))) : w.heap.size ≤ gb202)); have n5_ := Aside0.mk ((by rw [hg]; exact Nat.ne_of_lt (blk_lt (g := gb200) (o := .cells #[.bool a0_0, .slice (some ad201) l0_1.length c0_1, .slice A0_2 l0_2.length c0_2] 46 (0, 0)) (by (with_reducible repeat (first | refine blk_drewN ?_ _ | refine blk_drew ?_ | refine blk_alloc ?_ _)); exact BK200.out)) : gb200 ≠ gb202)); have n6_ := Aside0.mk ((by rw [hg]; exact Nat.ne_of_gt (blk_lt (g := gb200) (o := .cells #[.bool a0_0, .slice (some ad201) l0_1.length c0_1, .slice A0_2 l0_2.length c0_2] 46 (0, 0)) (by (with_reducible repeat (first | refine blk_drewN ?_ _ | refine blk_drew ?_ | refine blk_alloc ?_ _)); exact BK200.out)) : gb202 ≠ gb200)); clear BK200; clear HB; have BK200 := n0_; have HB := n1_; have BK202 := n2_; have GW202 := n3_; have GE202 := n4_; have NB200_202 := n5_; have NB202_200 := n6_; clear n0_ n1_ n2_ n3_ n4_ n5_ n6_; clear hb hbox hg; have hnb28 := NB202_200.out; have hnc28 := NB200_202.out; have hcz29_0 : w27.cell? ⟨gb202, 0, none⟩ = some (.int .i64 0) := (blk_cell BK202.out 0).trans rfl; have hcz29_1 : w27.cell? ⟨gb202, 1, none⟩ = some (.int .u32 0) := (blk_cell BK202.out 1).trans rfl; have hcz29_2 : w27.cell? ⟨gb202, 2, none⟩ = some (.int .u32 0) := (blk_cell BK202.out 2).trans rfl; have hcz29_3 : w27.cell? ⟨gb202, 3, none⟩ = some (.int .u8 0) := (blk_cell BK202.out 3).trans rfl; have hfz29_0 := blk_frozen BK202.out 0; have hfz29_1 := blk_frozen BK202.out 1; have hfz29_2 := blk_frozen BK202.out 2; have hfz29_3 := blk_frozen BK202.out 3))
                  (try simp only [Act.put, List.setIfInBounds_toArray, List.set_cons_zero, List.set_cons_succ])
                  go_cut [43] (fun v43 wc => ∃ (kq : Nat) (x43_24 : Bool), v43 = .bool x43_24 ∧ Aside0 (tinctureref7_MayPolicy.j2 kq x3_2 (((rd_T70 l0_1 x3_2).f3) != 0) ((rd_T70 l0_1 x3_2).f0) x43_24 a0_0 l0_1 l0_2 ((rd_T70 l0_1 x3_2).f0) ((rd_T70 l0_1 x3_2).f1) ((rd_T70 l0_1 x3_2).f2) ((rd_T70 l0_1 x3_2).f3) = some r) ∧ Aside0 (kq ≤ k2) ∧ Aside0 (wc.heap[gb200]? = some (.cells #[.bool a0_0, (.slice (some ad201) l0_1.length c0_1), (.slice A0_2 l0_2.length c0_2)] 46 (0, 0))) ∧ Aside0 (wc.heap[gb202]? = some (.cells #[.int .i64 ((rd_T70 l0_1 x3_2).f0), .int .u32 ((rd_T70 l0_1 x3_2).f1), .int .u32 ((rd_T70 l0_1 x3_2).f2), .int .u8 ((rd_T70 l0_1 x3_2).f3)] 70 (0, 0))) ∧ Aside0 (Below w.heap.size w wc))
                  case first =>
                    have H := HC25.out
                    clear HC25
                    by_cases c30 : ((rd_T70 l0_1 x3_2).f0) = 2
                    · rw [if_pos c30] at H
                      have c30b0 : (((rd_T70 l0_1 x3_2).f0) == 2) = true := beq_iff_eq.mpr c30
                      have c30b1 : (((rd_T70 l0_1 x3_2).f0) != 2) = false := bne_eq_false_iff_eq.mpr c30
                      clear c30
                      (first | rw [c30b0] | (simp only [i64_w, i32_w]; rw [c30b0]) | skip)
                      have H' := Aside0.mk H
                      clear H
                      go_wp2
                      go_meet
                      case rel => exact ⟨_, ((((rd_T70 l0_1 x3_2).f0) == 2)), (by first | rfl | (simp; done) | (simp [*]; done)), H', ⟨by have := HJ1.out; have := HK2.out; first | omega | exact Nat.le_refl _⟩, ⟨by (with_reducible repeat (first | refine blk_drewN ?_ _ | refine blk_drew ?_ | refine blk_alloc ?_ _)); refine blk_far ?_ NB200_202.out _; (with_reducible repeat (first | refine blk_drewN ?_ _ | refine blk_drew ?_ | refine blk_alloc ?_ _)); refine blk_far ?_ NB200_202.out _; (with_reducible repeat (first | refine blk_drewN ?_ _ | refine blk_drew ?_ | refine blk_alloc ?_ _)); refine blk_far ?_ NB200_202.out _; (with_reducible repeat (first | refine blk_drewN ?_ _ | refine blk_drew ?_ | refine blk_alloc ?_ _)); refine blk_far ?_ NB200_202.out _; (with_reducible repeat (first | refine blk_drewN ?_ _ | refine blk_drew ?_ | refine blk_alloc ?_ _)); exact BK200.out⟩, ⟨by (with_reducible repeat (first | refine blk_drewN ?_ _ | refine blk_drew ?_ | refine blk_alloc ?_ _)); refine blk_put (cs := #[.int .i64 ((rd_T70 l0_1 x3_2).f0), .int .u32 ((rd_T70 l0_1 x3_2).f1), .int .u32 ((rd_T70 l0_1 x3_2).f2), .int .u8 0]) ?_ 3 _ rfl; (with_reducible repeat (first | refine blk_drewN ?_ _ | refine blk_drew ?_ | refine blk_alloc ?_ _)); refine blk_put (cs := #[.int .i64 ((rd_T70 l0_1 x3_2).f0), .int .u32 ((rd_T70 l0_1 x3_2).f1), .int .u32 0, .int .u8 0]) ?_ 2 _ rfl; (with_reducible repeat (first | refine blk_drewN ?_ _ | refine blk_drew ?_ | refine blk_alloc ?_ _)); refine blk_put (cs := #[.int .i64 ((rd_T70 l0_1 x3_2).f0), .int .u32 0, .int .u32 0, .int .u8 0]) ?_ 1 _ rfl; (with_reducible repeat (first | refine blk_drewN ?_ _ | refine blk_drew ?_ | refine blk_alloc ?_ _)); refine blk_put (cs := #[.int .i64 0, .int .u32 0, .int .u32 0, .int .u8 0]) ?_ 0 _ rfl; (with_reducible repeat (first | refine blk_drewN ?_ _ | refine blk_drew ?_ | refine blk_alloc ?_ _)); exact BK202.out⟩, ⟨by repeat (first | (with_reducible first | exact HB.out | apply below_alloc | apply pw_below_drewN | apply below_drew1 | refine below_set ?_ GE200.out | refine below_set ?_ GE202.out) | exact HB.out)⟩⟩
                    · rw [if_neg c30] at H
                      have c30b0 : (((rd_T70 l0_1 x3_2).f0) == 2) = false := beq_eq_false_iff_ne.mpr c30
                      have c30b1 : (((rd_T70 l0_1 x3_2).f0) != 2) = true := bne_iff_ne.mpr c30
                      (first | rw [c30b0] | (simp only [i64_w, i32_w]; rw [c30b0]) | skip)
                      by_cases c31 : ((rd_T70 l0_1 x3_2).f0) = 3
                      · rw [if_pos c31] at H
                        have c31b0 : (((rd_T70 l0_1 x3_2).f0) == 3) = true := beq_iff_eq.mpr c31
                        have c31b1 : (((rd_T70 l0_1 x3_2).f0) != 3) = false := bne_eq_false_iff_eq.mpr c31
                        clear c31
                        have H' := Aside0.mk H
                        clear H
                        go_wp2
                        go_meet
                        case rel => exact ⟨_, ((((rd_T70 l0_1 x3_2).f0) == 3)), (by first | rfl | (simp; done) | (simp [*]; done)), H', ⟨by have := HJ1.out; have := HK2.out; first | omega | exact Nat.le_refl _⟩, ⟨by (with_reducible repeat (first | refine blk_drewN ?_ _ | refine blk_drew ?_ | refine blk_alloc ?_ _)); refine blk_far ?_ NB200_202.out _; (with_reducible repeat (first | refine blk_drewN ?_ _ | refine blk_drew ?_ | refine blk_alloc ?_ _)); refine blk_far ?_ NB200_202.out _; (with_reducible repeat (first | refine blk_drewN ?_ _ | refine blk_drew ?_ | refine blk_alloc ?_ _)); refine blk_far ?_ NB200_202.out _; (with_reducible repeat (first | refine blk_drewN ?_ _ | refine blk_drew ?_ | refine blk_alloc ?_ _)); refine blk_far ?_ NB200_202.out _; (with_reducible repeat (first | refine blk_drewN ?_ _ | refine blk_drew ?_ | refine blk_alloc ?_ _)); exact BK200.out⟩, ⟨by (with_reducible repeat (first | refine blk_drewN ?_ _ | refine blk_drew ?_ | refine blk_alloc ?_ _)); refine blk_put (cs := #[.int .i64 ((rd_T70 l0_1 x3_2).f0), .int .u32 ((rd_T70 l0_1 x3_2).f1), .int .u32 ((rd_T70 l0_1 x3_2).f2), .int .u8 0]) ?_ 3 _ rfl; (with_reducible repeat (first | refine blk_drewN ?_ _ | refine blk_drew ?_ | refine blk_alloc ?_ _)); refine blk_put (cs := #[.int .i64 ((rd_T70 l0_1 x3_2).f0), .int .u32 ((rd_T70 l0_1 x3_2).f1), .int .u32 0, .int .u8 0]) ?_ 2 _ rfl; (with_reducible repeat (first | refine blk_drewN ?_ _ | refine blk_drew ?_ | refine blk_alloc ?_ _)); refine blk_put (cs := #[.int .i64 ((rd_T70 l0_1 x3_2).f0), .int .u32 0, .int .u32 0, .int .u8 0]) ?_ 1 _ rfl; (with_reducible repeat (first | refine blk_drewN ?_ _ | refine blk_drew ?_ | refine blk_alloc ?_ _)); refine blk_put (cs := #[.int .i64 0, .int .u32 0, .int .u32 0, .int .u8 0]) ?_ 0 _ rfl; (with_reducible repeat (first | refine blk_drewN ?_ _ | refine blk_drew ?_ | refine blk_alloc ?_ _)); exact BK202.out⟩, ⟨by repeat (first | (with_reducible first | exact HB.out | apply below_alloc | apply pw_below_drewN | apply below_drew1 | refine below_set ?_ GE200.out | refine below_set ?_ GE202.out) | exact HB.out)⟩⟩
                      · rw [if_neg c31] at H
                        have c31b0 : (((rd_T70 l0_1 x3_2).f0) == 3) = false := beq_eq_false_iff_ne.mpr c31
                        have c31b1 : (((rd_T70 l0_1 x3_2).f0) != 3) = true := bne_iff_ne.mpr c31
                        have H' := Aside0.mk H
                        clear H
                        go_wp2
                        go_meet
                        case rel => exact ⟨_, ((((rd_T70 l0_1 x3_2).f0) == 5)), (by first | rfl | (simp; done) | (simp [*]; done)), H', ⟨by have := HJ1.out; have := HK2.out; first | omega | exact Nat.le_refl _⟩, ⟨by (with_reducible repeat (first | refine blk_drewN ?_ _ | refine blk_drew ?_ | refine blk_alloc ?_ _)); refine blk_far ?_ NB200_202.out _; (with_reducible repeat (first | refine blk_drewN ?_ _ | refine blk_drew ?_ | refine blk_alloc ?_ _)); refine blk_far ?_ NB200_202.out _; (with_reducible repeat (first | refine blk_drewN ?_ _ | refine blk_drew ?_ | refine blk_alloc ?_ _)); refine blk_far ?_ NB200_202.out _; (with_reducible repeat (first | refine blk_drewN ?_ _ | refine blk_drew ?_ | refine blk_alloc ?_ _)); refine blk_far ?_ NB200_202.out _; (with_reducible repeat (first | refine blk_drewN ?_ _ | refine blk_drew ?_ | refine blk_alloc ?_ _)); exact BK200.out⟩, ⟨by (with_reducible repeat (first | refine blk_drewN ?_ _ | refine blk_drew ?_ | refine blk_alloc ?_ _)); refine blk_put (cs := #[.int .i64 ((rd_T70 l0_1 x3_2).f0), .int .u32 ((rd_T70 l0_1 x3_2).f1), .int .u32 ((rd_T70 l0_1 x3_2).f2), .int .u8 0]) ?_ 3 _ rfl; (with_reducible repeat (first | refine blk_drewN ?_ _ | refine blk_drew ?_ | refine blk_alloc ?_ _)); refine blk_put (cs := #[.int .i64 ((rd_T70 l0_1 x3_2).f0), .int .u32 ((rd_T70 l0_1 x3_2).f1), .int .u32 0, .int .u8 0]) ?_ 2 _ rfl; (with_reducible repeat (first | refine blk_drewN ?_ _ | refine blk_drew ?_ | refine blk_alloc ?_ _)); refine blk_put (cs := #[.int .i64 ((rd_T70 l0_1 x3_2).f0), .int .u32 0, .int .u32 0, .int .u8 0]) ?_ 1 _ rfl; (with_reducible repeat (first | refine blk_drewN ?_ _ | refine blk_drew ?_ | refine blk_alloc ?_ _)); refine blk_put (cs := #[.int .i64 0, .int .u32 0, .int .u32 0, .int .u8 0]) ?_ 0 _ rfl; (with_reducible repeat (first | refine blk_drewN ?_ _ | refine blk_drew ?_ | refine blk_alloc ?_ _)); exact BK202.out⟩, ⟨by repeat (first | (with_reducible first | exact HB.out | apply below_alloc | apply pw_below_drewN | apply below_drew1 | refine below_set ?_ GE200.out | refine below_set ?_ GE202.out) | exact HB.out)⟩⟩
                  case rest =>
                    clear HC25
                    try clear c1
                    try clear c2
                    try clear p2
                    try clear q2
                    try clear hx2
                    try clear c3
                    try clear c4
                    try clear c4b0
                    try clear c4b1
                    try clear p6
                    try clear c7
                    try clear c8
                    try clear c8b0
                    try clear c9
                    try clear c9b0
                    try clear c10
                    try clear c10b0
                    try clear c10b1
                    try clear c11
                    try clear c11b0
                    try clear c11b1
                    try clear c14
                    try clear c16
                    try clear c16b0
                    try clear c16b1
                    try clear c19
                    try clear p20
                    try clear q20
                    try clear hx20
                    try clear c23
                    try clear c28
                    try clear c29
                    try clear c30
                    try clear c30b0
                    try clear c30b1
                    try clear c31
                    try clear c31b0
                    try clear c31b1
                    try clear hcz12_0
                    try clear hcz12_1
                    try clear hcz12_2
                    try clear hcz15_0
                    try clear hcz15_1
                    try clear hcz15_2
                    try clear hcz15_3
                    try clear hcz17_0
                    try clear hcz17_1
                    try clear hcz17_2
                    try clear hcz20_0
                    try clear hcz20_1
                    try clear hcz20_2
                    try clear hcz20_3
                    try clear hcz21_0
                    try clear hcz21_1
                    try clear hcz21_2
                    try clear hcz24_0
                    try clear hcz24_1
                    try clear hcz24_2
                    try clear hcz24_3
                    try clear hcz26_0
                    try clear hcz26_1
                    try clear hcz26_2
                    try clear hcz29_0
                    try clear hcz29_1
                    try clear hcz29_2
                    try clear hcz29_3
                    try clear hcz5_0
                    try clear hcz5_1
                    try clear hcz5_2
                    try clear hcz6_0
                    try clear hcz6_1
                    try clear hcz6_2
                    try clear hfz12_0
                    try clear hfz12_1
                    try clear hfz12_2
                    try clear hfz15_0
                    try clear hfz15_1
                    try clear hfz15_2
                    try clear hfz15_3
                    try clear hfz17_0
                    try clear hfz17_1
                    try clear hfz17_2
                    try clear hfz20_0
                    try clear hfz20_1
                    try clear hfz20_2
                    try clear hfz20_3
                    try clear hfz21_0
                    try clear hfz21_1
                    try clear hfz21_2
                    try clear hfz24_0
                    try clear hfz24_1
                    try clear hfz24_2
                    try clear hfz24_3
                    try clear hfz26_0
                    try clear hfz26_1
                    try clear hfz26_2
                    try clear hfz29_0
                    try clear hfz29_1
                    try clear hfz29_2
                    try clear hfz29_3
                    try clear hfz5_0
                    try clear hfz5_1
                    try clear hfz5_2
                    try clear hfz6_0
                    try clear hfz6_1
                    try clear hfz6_2
                    try clear hx201_0
                    try clear hx201_1
                    try clear hx201_2
                    try clear hx201_3
                    try clear p2
                    try clear p201
                    try clear q201
                    obtain ⟨kq, x43_24, rfl, HA, HJ24, BK200, BK202, HB⟩ := hcut
                    cases kq with
                    | zero => exact absurd HA.out (by simp [tinctureref7_MayPolicy.j2])
                    | succ kj24 =>
                      have H := HA.out
                      clear HA
                      simp only [tinctureref7_MayPolicy.j2] at H
                      by_cases c32 : x43_24 = true
                      · subst c32
                        have H1 : (if (((rd_T70 l0_1 x3_2).f3) != 0) = true then (if ((rd_T70 l0_1 x3_2).f1) = 0 then (if ((rd_T70 l0_1 x3_2).f2) = 0 then (tinctureref7_MayPolicy.l0 kj24 (wrap64 (x3_2 + 1)) a0_0 l0_1 l0_2) else (some false)) else (some false)) else (some false)) = some r := by rw [if_pos rfl] at H; exact H
                        clear H
                        have H := H1
                        clear H1
                        by_cases c33 : (((rd_T70 l0_1 x3_2).f3) != 0) = true
                        · rw [if_pos c33] at H
                          have c33b0 : (((rd_T70 l0_1 x3_2).f3) != 0) = true := c33
                          (try (have c33b1 : decide (((rd_T70 l0_1 x3_2).f3) = 0) = false := by simpa using c33))
                          (try (have c33b2 : (((rd_T70 l0_1 x3_2).f3) == 0) = false := by simpa using c33))
                          (try (have c33b3 : ¬ (((rd_T70 l0_1 x3_2).f3) = 0) := by simpa using c33))
                          clear c33
                          by_cases c34 : ((rd_T70 l0_1 x3_2).f1) = 0
                          · rw [if_pos c34] at H
                            have c34b0 : (((rd_T70 l0_1 x3_2).f1) == 0) = true := beq_iff_eq.mpr c34
                            have c34b1 : (((rd_T70 l0_1 x3_2).f1) != 0) = false := bne_eq_false_iff_eq.mpr c34
                            clear c34
                            by_cases c35 : ((rd_T70 l0_1 x3_2).f2) = 0
                            · rw [if_pos c35] at H
                              have c35b0 : (((rd_T70 l0_1 x3_2).f2) == 0) = true := beq_iff_eq.mpr c35
                              have c35b1 : (((rd_T70 l0_1 x3_2).f2) != 0) = false := bne_eq_false_iff_eq.mpr c35
                              clear c35
                              have H' := Aside0.mk H
                              clear H
                              have hnb36 := NB202_200.out
                              have hnc36 := NB200_202.out
                              have hcz37_0 : wc.cell? ⟨gb202, 0, none⟩ = some (.int .i64 ((rd_T70 l0_1 x3_2).f0)) := (blk_cell BK202.out 0).trans rfl
                              have hcz37_1 : wc.cell? ⟨gb202, 1, none⟩ = some (.int .u32 ((rd_T70 l0_1 x3_2).f1)) := (blk_cell BK202.out 1).trans rfl
                              have hcz37_2 : wc.cell? ⟨gb202, 2, none⟩ = some (.int .u32 ((rd_T70 l0_1 x3_2).f2)) := (blk_cell BK202.out 2).trans rfl
                              have hcz37_3 : wc.cell? ⟨gb202, 3, none⟩ = some (.int .u8 ((rd_T70 l0_1 x3_2).f3)) := (blk_cell BK202.out 3).trans rfl
                              have hfz37_0 := blk_frozen BK202.out 0
                              have hfz37_1 := blk_frozen BK202.out 1
                              have hfz37_2 := blk_frozen BK202.out 2
                              have hfz37_3 := blk_frozen BK202.out 3
                              go_wp2
                              go_roundg kj24
                              case measure => have := HJ1.out; have := HK2.out; have := HJ24.out; omega
                              case rel => exact ⟨(wrap64 (x3_2 + 1)), (by first | rfl | (simp; done) | (simp [*]; done)), H', ⟨by have := HJ1.out; have := HK2.out; have := HJ24.out; omega⟩, ⟨by (with_reducible repeat (first | refine blk_drewN ?_ _ | refine blk_drew ?_ | refine blk_alloc ?_ _)); exact BK200.out⟩, ⟨by repeat (first | (with_reducible first | exact HB.out | apply below_alloc | apply pw_below_drewN | apply below_drew1 | refine below_set ?_ GE200.out | refine below_set ?_ GE202.out) | exact HB.out)⟩⟩
                            · rw [if_neg c35] at H
                              have c35b0 : (((rd_T70 l0_1 x3_2).f2) == 0) = false := beq_eq_false_iff_ne.mpr c35
                              have c35b1 : (((rd_T70 l0_1 x3_2).f2) != 0) = true := bne_iff_ne.mpr c35
                              obtain rfl := Option.some.inj H
                              have hnb38 := NB202_200.out
                              have hnc38 := NB200_202.out
                              have hcz39_0 : wc.cell? ⟨gb202, 0, none⟩ = some (.int .i64 ((rd_T70 l0_1 x3_2).f0)) := (blk_cell BK202.out 0).trans rfl
                              have hcz39_1 : wc.cell? ⟨gb202, 1, none⟩ = some (.int .u32 ((rd_T70 l0_1 x3_2).f1)) := (blk_cell BK202.out 1).trans rfl
                              have hcz39_2 : wc.cell? ⟨gb202, 2, none⟩ = some (.int .u32 ((rd_T70 l0_1 x3_2).f2)) := (blk_cell BK202.out 2).trans rfl
                              have hcz39_3 : wc.cell? ⟨gb202, 3, none⟩ = some (.int .u8 ((rd_T70 l0_1 x3_2).f3)) := (blk_cell BK202.out 3).trans rfl
                              have hfz39_0 := blk_frozen BK202.out 0
                              have hfz39_1 := blk_frozen BK202.out 1
                              have hfz39_2 := blk_frozen BK202.out 2
                              have hfz39_3 := blk_frozen BK202.out 3
                              go_wp2
                              go_ret
                              exact ⟨by first | rfl | (simp [errW_none, errW_some] <;> rfl) | (simp [*, errW_none, errW_some] <;> rfl), by repeat (first | (with_reducible first | exact HB.out | apply below_alloc | apply pw_below_drewN | apply below_drew1 | refine below_set ?_ GE200.out | refine below_set ?_ GE202.out) | exact HB.out)⟩
                          · rw [if_neg c34] at H
                            have c34b0 : (((rd_T70 l0_1 x3_2).f1) == 0) = false := beq_eq_false_iff_ne.mpr c34
                            have c34b1 : (((rd_T70 l0_1 x3_2).f1) != 0) = true := bne_iff_ne.mpr c34
                            obtain rfl := Option.some.inj H
                            have hnb40 := NB202_200.out
                            have hnc40 := NB200_202.out
                            have hcz41_0 : wc.cell? ⟨gb202, 0, none⟩ = some (.int .i64 ((rd_T70 l0_1 x3_2).f0)) := (blk_cell BK202.out 0).trans rfl
                            have hcz41_1 : wc.cell? ⟨gb202, 1, none⟩ = some (.int .u32 ((rd_T70 l0_1 x3_2).f1)) := (blk_cell BK202.out 1).trans rfl
                            have hcz41_2 : wc.cell? ⟨gb202, 2, none⟩ = some (.int .u32 ((rd_T70 l0_1 x3_2).f2)) := (blk_cell BK202.out 2).trans rfl
                            have hcz41_3 : wc.cell? ⟨gb202, 3, none⟩ = some (.int .u8 ((rd_T70 l0_1 x3_2).f3)) := (blk_cell BK202.out 3).trans rfl
                            have hfz41_0 := blk_frozen BK202.out 0
                            have hfz41_1 := blk_frozen BK202.out 1
                            have hfz41_2 := blk_frozen BK202.out 2
                            have hfz41_3 := blk_frozen BK202.out 3
                            go_wp2
                            go_ret
                            exact ⟨by first | rfl | (simp [errW_none, errW_some] <;> rfl) | (simp [*, errW_none, errW_some] <;> rfl), by repeat (first | (with_reducible first | exact HB.out | apply below_alloc | apply pw_below_drewN | apply below_drew1 | refine below_set ?_ GE200.out | refine below_set ?_ GE202.out) | exact HB.out)⟩
                        · rw [if_neg c33] at H
                          have c33b0 : (((rd_T70 l0_1 x3_2).f3) != 0) = false := by simpa using c33
                          (try (have c33b1 : decide (((rd_T70 l0_1 x3_2).f3) = 0) = true := by simpa using c33))
                          (try (have c33b2 : (((rd_T70 l0_1 x3_2).f3) == 0) = true := by simpa using c33))
                          clear c33
                          obtain rfl := Option.some.inj H
                          go_wp2
                          go_ret
                          exact ⟨by first | rfl | (simp [errW_none, errW_some] <;> rfl) | (simp [*, errW_none, errW_some] <;> rfl), by repeat (first | (with_reducible first | exact HB.out | apply below_alloc | apply pw_below_drewN | apply below_drew1 | refine below_set ?_ GE200.out | refine below_set ?_ GE202.out) | exact HB.out)⟩
                      · replace c32 := Bool.eq_false_iff.mpr c32
                        subst c32
                        have H1 : (if ((rd_T70 l0_1 x3_2).f0) = 4 then (if (((rd_T70 l0_1 x3_2).f3) != 0) = true then (if ((rd_T70 l0_1 x3_2).f2) = 0 then (some false) else (if ((wrap64 ((wrap64 (((rd_T70 l0_1 x3_2).f1))) + (wrap64 (((rd_T70 l0_1 x3_2).f2))))) ≤ 4294967296) then (tinctureref7_MayPolicy.l0 kj24 (wrap64 (x3_2 + 1)) a0_0 l0_1 l0_2) else (some false))) else (some false)) else (some false)) = some r := by rw [if_neg (show ¬ (false = true) by decide)] at H; exact H
                        clear H
                        have H := H1
                        clear H1
                        by_cases c42 : ((rd_T70 l0_1 x3_2).f0) = 4
                        · rw [if_pos c42] at H
                          have c42b0 : (((rd_T70 l0_1 x3_2).f0) == 4) = true := beq_iff_eq.mpr c42
                          have c42b1 : (((rd_T70 l0_1 x3_2).f0) != 4) = false := bne_eq_false_iff_eq.mpr c42
                          clear c42
                          by_cases c43 : (((rd_T70 l0_1 x3_2).f3) != 0) = true
                          · rw [if_pos c43] at H
                            have c43b0 : (((rd_T70 l0_1 x3_2).f3) != 0) = true := c43
                            (try (have c43b1 : decide (((rd_T70 l0_1 x3_2).f3) = 0) = false := by simpa using c43))
                            (try (have c43b2 : (((rd_T70 l0_1 x3_2).f3) == 0) = false := by simpa using c43))
                            (try (have c43b3 : ¬ (((rd_T70 l0_1 x3_2).f3) = 0) := by simpa using c43))
                            clear c43
                            by_cases c44 : ((rd_T70 l0_1 x3_2).f2) = 0
                            · rw [if_pos c44] at H
                              have c44b0 : (((rd_T70 l0_1 x3_2).f2) == 0) = true := beq_iff_eq.mpr c44
                              have c44b1 : (((rd_T70 l0_1 x3_2).f2) != 0) = false := bne_eq_false_iff_eq.mpr c44
                              clear c44
                              obtain rfl := Option.some.inj H
                              have hnb45 := NB202_200.out
                              have hnc45 := NB200_202.out
                              have hcz46_0 : wc.cell? ⟨gb202, 0, none⟩ = some (.int .i64 ((rd_T70 l0_1 x3_2).f0)) := (blk_cell BK202.out 0).trans rfl
                              have hcz46_1 : wc.cell? ⟨gb202, 1, none⟩ = some (.int .u32 ((rd_T70 l0_1 x3_2).f1)) := (blk_cell BK202.out 1).trans rfl
                              have hcz46_2 : wc.cell? ⟨gb202, 2, none⟩ = some (.int .u32 ((rd_T70 l0_1 x3_2).f2)) := (blk_cell BK202.out 2).trans rfl
                              have hcz46_3 : wc.cell? ⟨gb202, 3, none⟩ = some (.int .u8 ((rd_T70 l0_1 x3_2).f3)) := (blk_cell BK202.out 3).trans rfl
                              have hfz46_0 := blk_frozen BK202.out 0
                              have hfz46_1 := blk_frozen BK202.out 1
                              have hfz46_2 := blk_frozen BK202.out 2
                              have hfz46_3 := blk_frozen BK202.out 3
                              go_wp2
                              go_ret
                              exact ⟨by first | rfl | (simp [errW_none, errW_some] <;> rfl) | (simp [*, errW_none, errW_some] <;> rfl), by repeat (first | (with_reducible first | exact HB.out | apply below_alloc | apply pw_below_drewN | apply below_drew1 | refine below_set ?_ GE200.out | refine below_set ?_ GE202.out) | exact HB.out)⟩
                            · rw [if_neg c44] at H
                              have c44b0 : (((rd_T70 l0_1 x3_2).f2) == 0) = false := beq_eq_false_iff_ne.mpr c44
                              have c44b1 : (((rd_T70 l0_1 x3_2).f2) != 0) = true := bne_iff_ne.mpr c44
                              by_cases c47 : ((wrap64 ((wrap64 (((rd_T70 l0_1 x3_2).f1))) + (wrap64 (((rd_T70 l0_1 x3_2).f2))))) ≤ 4294967296)
                              · rw [if_pos c47] at H
                                have c47b0 : decide ((wrap64 ((wrap64 (((rd_T70 l0_1 x3_2).f1))) + (wrap64 (((rd_T70 l0_1 x3_2).f2))))) ≤ 4294967296) = true := decide_eq_true c47
                                clear c47
                                have H' := Aside0.mk H
                                clear H
                                have hnb48 := NB202_200.out
                                have hnc48 := NB200_202.out
                                have hcz49_0 : wc.cell? ⟨gb202, 0, none⟩ = some (.int .i64 ((rd_T70 l0_1 x3_2).f0)) := (blk_cell BK202.out 0).trans rfl
                                have hcz49_1 : wc.cell? ⟨gb202, 1, none⟩ = some (.int .u32 ((rd_T70 l0_1 x3_2).f1)) := (blk_cell BK202.out 1).trans rfl
                                have hcz49_2 : wc.cell? ⟨gb202, 2, none⟩ = some (.int .u32 ((rd_T70 l0_1 x3_2).f2)) := (blk_cell BK202.out 2).trans rfl
                                have hcz49_3 : wc.cell? ⟨gb202, 3, none⟩ = some (.int .u8 ((rd_T70 l0_1 x3_2).f3)) := (blk_cell BK202.out 3).trans rfl
                                have hfz49_0 := blk_frozen BK202.out 0
                                have hfz49_1 := blk_frozen BK202.out 1
                                have hfz49_2 := blk_frozen BK202.out 2
                                have hfz49_3 := blk_frozen BK202.out 3
                                go_wp2
                                go_roundg kj24
                                case measure => have := HJ1.out; have := HK2.out; have := HJ24.out; omega
                                case rel => exact ⟨(wrap64 (x3_2 + 1)), (by first | rfl | (simp; done) | (simp [*]; done)), H', ⟨by have := HJ1.out; have := HK2.out; have := HJ24.out; omega⟩, ⟨by (with_reducible repeat (first | refine blk_drewN ?_ _ | refine blk_drew ?_ | refine blk_alloc ?_ _)); exact BK200.out⟩, ⟨by repeat (first | (with_reducible first | exact HB.out | apply below_alloc | apply pw_below_drewN | apply below_drew1 | refine below_set ?_ GE200.out | refine below_set ?_ GE202.out) | exact HB.out)⟩⟩
                              · rw [if_neg c47] at H
                                have c47b0 : decide ((wrap64 ((wrap64 (((rd_T70 l0_1 x3_2).f1))) + (wrap64 (((rd_T70 l0_1 x3_2).f2))))) ≤ 4294967296) = false := decide_eq_false c47
                                clear c47
                                obtain rfl := Option.some.inj H
                                have hnb50 := NB202_200.out
                                have hnc50 := NB200_202.out
                                have hcz51_0 : wc.cell? ⟨gb202, 0, none⟩ = some (.int .i64 ((rd_T70 l0_1 x3_2).f0)) := (blk_cell BK202.out 0).trans rfl
                                have hcz51_1 : wc.cell? ⟨gb202, 1, none⟩ = some (.int .u32 ((rd_T70 l0_1 x3_2).f1)) := (blk_cell BK202.out 1).trans rfl
                                have hcz51_2 : wc.cell? ⟨gb202, 2, none⟩ = some (.int .u32 ((rd_T70 l0_1 x3_2).f2)) := (blk_cell BK202.out 2).trans rfl
                                have hcz51_3 : wc.cell? ⟨gb202, 3, none⟩ = some (.int .u8 ((rd_T70 l0_1 x3_2).f3)) := (blk_cell BK202.out 3).trans rfl
                                have hfz51_0 := blk_frozen BK202.out 0
                                have hfz51_1 := blk_frozen BK202.out 1
                                have hfz51_2 := blk_frozen BK202.out 2
                                have hfz51_3 := blk_frozen BK202.out 3
                                go_wp2
                                go_ret
                                exact ⟨by first | rfl | (simp [errW_none, errW_some] <;> rfl) | (simp [*, errW_none, errW_some] <;> rfl), by repeat (first | (with_reducible first | exact HB.out | apply below_alloc | apply pw_below_drewN | apply below_drew1 | refine below_set ?_ GE200.out | refine below_set ?_ GE202.out) | exact HB.out)⟩
                          · rw [if_neg c43] at H
                            have c43b0 : (((rd_T70 l0_1 x3_2).f3) != 0) = false := by simpa using c43
                            (try (have c43b1 : decide (((rd_T70 l0_1 x3_2).f3) = 0) = true := by simpa using c43))
                            (try (have c43b2 : (((rd_T70 l0_1 x3_2).f3) == 0) = true := by simpa using c43))
                            clear c43
                            obtain rfl := Option.some.inj H
                            go_wp2
                            go_ret
                            exact ⟨by first | rfl | (simp [errW_none, errW_some] <;> rfl) | (simp [*, errW_none, errW_some] <;> rfl), by repeat (first | (with_reducible first | exact HB.out | apply below_alloc | apply pw_below_drewN | apply below_drew1 | refine below_set ?_ GE200.out | refine below_set ?_ GE202.out) | exact HB.out)⟩
                        · rw [if_neg c42] at H
                          have c42b0 : (((rd_T70 l0_1 x3_2).f0) == 4) = false := beq_eq_false_iff_ne.mpr c42
                          have c42b1 : (((rd_T70 l0_1 x3_2).f0) != 4) = true := bne_iff_ne.mpr c42
                          obtain rfl := Option.some.inj H
                          go_wp2
                          go_ret
                          exact ⟨by first | rfl | (simp [errW_none, errW_some] <;> rfl) | (simp [*, errW_none, errW_some] <;> rfl), by repeat (first | (with_reducible first | exact HB.out | apply below_alloc | apply pw_below_drewN | apply below_drew1 | refine below_set ?_ GE200.out | refine below_set ?_ GE202.out) | exact HB.out)⟩
              · rw [if_neg c9] at H
                exact absurd H (by simp)
            · rw [if_neg c8] at H
              have c8b0 : decide (x3_2 < (l0_1.length : Int)) = false := decide_eq_false c8
              clear c8
              have H' := Aside0.mk H
              clear H
              have hcz52_0 : wr.cell? ⟨gb200, 0, none⟩ = some (.bool a0_0) := (blk_cell BK200.out 0).trans rfl
              have hcz52_1 : wr.cell? ⟨gb200, 1, none⟩ = some (.slice A0_1 l0_1.length c0_1) := (blk_cell BK200.out 1).trans rfl
              have hcz52_2 : wr.cell? ⟨gb200, 2, none⟩ = some (.slice A0_2 l0_2.length c0_2) := (blk_cell BK200.out 2).trans rfl
              have hfz52_0 := blk_frozen BK200.out 0
              have hfz52_1 := blk_frozen BK200.out 1
              have hfz52_2 := blk_frozen BK200.out 2
              go_wp2
              go_loopg [6] k2 (fun kq v6 w' => ∃ (x6_3 : Int), v6 = .int .i64 x6_3 ∧ Aside0 (tinctureref7_MayPolicy.l1 kq x6_3 a0_0 l0_1 l0_2 = some r) ∧ Aside0 (kq ≤ k2) ∧ Aside0 (w'.heap[gb200]? = some (.cells #[.bool a0_0, (.slice A0_1 l0_1.length c0_1), (.slice A0_2 l0_2.length c0_2)] 46 (0, 0))) ∧ Aside0 (Below w.heap.size w w'))
              case atStart => exact ⟨(0), (by first | rfl | (simp; done) | (simp [*]; done)), H', ⟨Nat.le_refl _⟩, ⟨by (with_reducible repeat (first | refine blk_drewN ?_ _ | refine blk_drew ?_ | refine blk_alloc ?_ _)); exact BK200.out⟩, ⟨by repeat (first | (with_reducible first | exact HB.out | apply below_alloc | apply pw_below_drewN | apply below_drew1 | refine below_set ?_ GE200.out) | exact HB.out)⟩⟩
              case round =>
                clear H'
                try clear c1
                try clear c2
                try clear p2
                try clear q2
                try clear hx2
                try clear c3
                try clear c4
                try clear c4b0
                try clear c4b1
                try clear c5
                try clear p6
                try clear c7
                try clear c8
                try clear c8b0
                try clear c9
                try clear c9b0
                try clear c10
                try clear c10b0
                try clear c10b1
                try clear c11
                try clear c11b0
                try clear c11b1
                try clear c14
                try clear c16
                try clear c16b0
                try clear c16b1
                try clear c19
                try clear p20
                try clear q20
                try clear hx20
                try clear c23
                try clear c28
                try clear c29
                try clear c30
                try clear c30b0
                try clear c30b1
                try clear c31
                try clear c31b0
                try clear c31b1
                try clear c32
                try clear c33
                try clear c33b0
                try clear c33b1
                try clear c33b2
                try clear c34
                try clear c34b0
                try clear c34b1
                try clear c35
                try clear c35b0
                try clear c35b1
                try clear c36
                try clear c38
                try clear c40
                try clear c42
                try clear c42b0
                try clear c42b1
                try clear c43
                try clear c43b0
                try clear c43b1
                try clear c43b2
                try clear c44
                try clear c44b0
                try clear c44b1
                try clear c45
                try clear c47
                try clear c47b0
                try clear c48
                try clear c50
                try clear hcz12_0
                try clear hcz12_1
                try clear hcz12_2
                try clear hcz15_0
                try clear hcz15_1
                try clear hcz15_2
                try clear hcz15_3
                try clear hcz17_0
                try clear hcz17_1
                try clear hcz17_2
                try clear hcz20_0
                try clear hcz20_1
                try clear hcz20_2
                try clear hcz20_3
                try clear hcz21_0
                try clear hcz21_1
                try clear hcz21_2
                try clear hcz24_0
                try clear hcz24_1
                try clear hcz24_2
                try clear hcz24_3
                try clear hcz26_0
                try clear hcz26_1
                try clear hcz26_2
                try clear hcz29_0
                try clear hcz29_1
                try clear hcz29_2
                try clear hcz29_3
                try clear hcz37_0
                try clear hcz37_1
                try clear hcz37_2
                try clear hcz37_3
                try clear hcz39_0
                try clear hcz39_1
                try clear hcz39_2
                try clear hcz39_3
                try clear hcz41_0
                try clear hcz41_1
                try clear hcz41_2
                try clear hcz41_3
                try clear hcz46_0
                try clear hcz46_1
                try clear hcz46_2
                try clear hcz46_3
                try clear hcz49_0
                try clear hcz49_1
                try clear hcz49_2
                try clear hcz49_3
                try clear hcz51_0
                try clear hcz51_1
                try clear hcz51_2
                try clear hcz51_3
                try clear hcz52_0
                try clear hcz52_1
                try clear hcz52_2
                try clear hcz5_0
                try clear hcz5_1
                try clear hcz5_2
                try clear hcz6_0
                try clear hcz6_1
                try clear hcz6_2
                try clear hfz12_0
                try clear hfz12_1
                try clear hfz12_2
                try clear hfz15_0
                try clear hfz15_1
                try clear hfz15_2
                try clear hfz15_3
                try clear hfz17_0
                try clear hfz17_1
                try clear hfz17_2
                try clear hfz20_0
                try clear hfz20_1
                try clear hfz20_2
                try clear hfz20_3
                try clear hfz21_0
                try clear hfz21_1
                try clear hfz21_2
                try clear hfz24_0
                try clear hfz24_1
                try clear hfz24_2
                try clear hfz24_3
                try clear hfz26_0
                try clear hfz26_1
                try clear hfz26_2
                try clear hfz29_0
                try clear hfz29_1
                try clear hfz29_2
                try clear hfz29_3
                try clear hfz37_0
                try clear hfz37_1
                try clear hfz37_2
                try clear hfz37_3
                try clear hfz39_0
                try clear hfz39_1
                try clear hfz39_2
                try clear hfz39_3
                try clear hfz41_0
                try clear hfz41_1
                try clear hfz41_2
                try clear hfz41_3
                try clear hfz46_0
                try clear hfz46_1
                try clear hfz46_2
                try clear hfz46_3
                try clear hfz49_0
                try clear hfz49_1
                try clear hfz49_2
                try clear hfz49_3
                try clear hfz51_0
                try clear hfz51_1
                try clear hfz51_2
                try clear hfz51_3
                try clear hfz52_0
                try clear hfz52_1
                try clear hfz52_2
                try clear hfz5_0
                try clear hfz5_1
                try clear hfz5_2
                try clear hfz6_0
                try clear hfz6_1
                try clear hfz6_2
                try clear hx201_0
                try clear hx201_1
                try clear hx201_2
                try clear hx201_3
                try clear p2
                try clear p20
                try clear p201
                try clear p6
                try clear q2
                try clear q20
                try clear q201
                obtain ⟨x6_3, rfl, HA, HK3, BK200, HB⟩ := hrel
                cases gk with
                | zero => exact absurd HA.out (by simp [tinctureref7_MayPolicy.l1])
                | succ k3 =>
                  have H := HA.out
                  clear HA
                  simp only [tinctureref7_MayPolicy.l1] at H
                  by_cases c53 : x6_3 < (l0_2.length : Int)
                  · rw [if_pos c53] at H
                    have c53b0 : decide (x6_3 < (l0_2.length : Int)) = true := decide_eq_true c53
                    clear c53
                    by_cases c54 : 0 ≤ x6_3
                    · rw [if_pos c54] at H
                      have c54b0 : decide (0 ≤ x6_3) = true := decide_eq_true c54
                      clear c54
                      by_cases c55 : ((rd_T71 l0_2 x6_3).f0) < 1
                      · rw [if_pos c55] at H
                        have c55b0 : decide (((rd_T71 l0_2 x6_3).f0) < 1) = true := decide_eq_true c55
                        clear c55
                        obtain rfl := Option.some.inj H
                        have hcz56_0 : wr.cell? ⟨gb200, 0, none⟩ = some (.bool a0_0) := (blk_cell BK200.out 0).trans rfl
                        have hcz56_1 : wr.cell? ⟨gb200, 1, none⟩ = some (.slice A0_1 l0_1.length c0_1) := (blk_cell BK200.out 1).trans rfl
                        have hcz56_2 : wr.cell? ⟨gb200, 2, none⟩ = some (.slice A0_2 l0_2.length c0_2) := (blk_cell BK200.out 2).trans rfl
                        have hfz56_0 := blk_frozen BK200.out 0
                        have hfz56_1 := blk_frozen BK200.out 1
                        have hfz56_2 := blk_frozen BK200.out 2
                        have p203 : 0 ≤ (x6_3 : Int) := of_decide_eq_true (by first | (with_reducible assumption) | assumption)
                        have q203 : x6_3 < (l0_2.length : Int) := of_decide_eq_true (by first | (with_reducible assumption) | assumption)
                        obtain ⟨ad203, e203, hx203_0, hx203_1, hx203_2⟩ := at_T71 HR0_2.out x6_3 p203 q203
                        cases e203
                        replace hx203_0 := (HB.out.cell (World.block_lt_of_cell? w _ hx203_0)).trans hx203_0
                        replace hx203_1 := (HB.out.cell (World.block_lt_of_cell? w _ hx203_1)).trans hx203_1
                        replace hx203_2 := (HB.out.cell (World.block_lt_of_cell? w _ hx203_2)).trans hx203_2
                        replace p203 := eq_true p203
                        replace q203 := eq_true q203
                        go_wp2_with (first | ((with_reducible refine gate_dst (N := 7) rfl ?_); (try (refine gate_guard (by rfl) ?_; dsimp only)); refine box_event ?hg (N := 7) ?hd (cs := #[.int .i64 0, .int .i64 0, .int .u8 0]) (t := 71) ?hr ?_; (case hd => rfl); (case hg => rfl); (case hr => first | (go_simp; done) | (go_simp; rfl)); intro gb204 hg w57 hbox hb; have n0_ := Aside0.mk (blk_below (g := gb200) (o := .cells #[.bool a0_0, .slice A0_1 l0_1.length c0_1, .slice (some ad203) l0_2.length c0_2] 46 (0, 0)) (by (with_reducible repeat (first | refine blk_drewN ?_ _ | refine blk_drew ?_ | refine blk_alloc ?_ _)); exact BK200.out) hb); have n1_ := Aside0.mk (below_step (by repeat (first | (with_reducible first | exact HB.out | apply below_alloc | apply pw_below_drewN | apply below_drew1 | refine below_set ?_ GE200.out) | exact HB.out)) hb); have n2_ := Aside0.mk (hbox); have n3_ := Aside0.mk ((by rw [hg]; exact (below_size (by repeat (first | (with_reducible first | exact HB.out | apply below_alloc | apply pw_below_drewN | apply below_drew1 | refine below_set ?_ GE200.out) | exact HB.out))) : w.heap.size ≤ gb204)); have n4_ := Aside0.mk ((by rw [hg]; exact (below_size (by repeat (first | (with_reducible first | exact HB.out | apply below_alloc | apply pw_below_drewN | apply below_drew1 | refine below_set ?_ GE200.out) | exact HB.out))) : w.heap.size ≤ gb204)); have n5_ := Aside0.mk ((by rw [hg]; exact Nat.ne_of_lt (blk_lt (g := gb200) (o := .cells #[.bool a0_0, .slice A0_1 l0_1.length c0_1, .slice (some ad203) l0_2.length c0_2] 46 (0, 0)) (by (with_reducible repeat (first | refine blk_drewN ?_ _ | refine blk_drew ?_ | refine blk_alloc ?_ _)); exact BK200.out)) : gb200 ≠ gb204)); have n6_ := Aside0.mk ((by rw [hg]; exact Nat.ne_of_gt (blk_lt (g := gb200) (o := .cells #[.bool a0_0, .slice A0_1 l0_1.length c0_1, .slice (some ad203) l0_2.length c0_2] 46 (0, 0)) (by (with_reducible repeat (first | refine blk_drewN ?_ _ | refine blk_drew ?_ | refine blk_alloc ?_ _)); exact BK200.out)) : gb204 ≠ gb200)); clear BK200; clear HB; have BK200 := n0_; have HB := n1_; have BK204 := n2_; have GW204 := n3_; have GE204 := n4_; have NB200_204 := n5_; have NB204_200 := n6_; clear n0_ n1_ n2_ n3_ n4_ n5_ n6_; clear hb hbox hg; have hnb58 := NB204_200.out; have hnc58 := NB200_204.out; have hcz59_0 : w57.cell? ⟨gb204, 0, none⟩ = some (.int .i64 0) := (blk_cell BK204.out 0).trans rfl; have hcz59_1 : w57.cell? ⟨gb204, 1, none⟩ = some (.int .i64 0) := (blk_cell BK204.out 1).trans rfl; have hcz59_2 : w57.cell? ⟨gb204, 2, none⟩ = some (.int .u8 0) := (blk_cell BK204.out 2).trans rfl; have hfz59_0 := blk_frozen BK204.out 0; have hfz59_1 := blk_frozen BK204.out 1; have hfz59_2 := blk_frozen BK204.out 2))
                        go_ret
                        exact ⟨by first | rfl | (simp [errW_none, errW_some] <;> rfl) | (simp [*, errW_none, errW_some] <;> rfl), by repeat (first | (with_reducible first | exact HB.out | apply below_alloc | apply pw_below_drewN | apply below_drew1 | refine below_set ?_ GE200.out | refine below_set ?_ GE204.out) | exact HB.out)⟩
                      · rw [if_neg c55] at H
                        have c55b0 : decide (((rd_T71 l0_2 x6_3).f0) < 1) = false := decide_eq_false c55
                        clear c55
                        by_cases c60 : ((rd_T71 l0_2 x6_3).f0) > 5
                        · rw [if_pos c60] at H
                          have c60b0 : decide (5 < ((rd_T71 l0_2 x6_3).f0)) = true := decide_eq_true c60
                          clear c60
                          obtain rfl := Option.some.inj H
                          have hcz61_0 : wr.cell? ⟨gb200, 0, none⟩ = some (.bool a0_0) := (blk_cell BK200.out 0).trans rfl
                          have hcz61_1 : wr.cell? ⟨gb200, 1, none⟩ = some (.slice A0_1 l0_1.length c0_1) := (blk_cell BK200.out 1).trans rfl
                          have hcz61_2 : wr.cell? ⟨gb200, 2, none⟩ = some (.slice A0_2 l0_2.length c0_2) := (blk_cell BK200.out 2).trans rfl
                          have hfz61_0 := blk_frozen BK200.out 0
                          have hfz61_1 := blk_frozen BK200.out 1
                          have hfz61_2 := blk_frozen BK200.out 2
                          have p203 : 0 ≤ (x6_3 : Int) := of_decide_eq_true (by first | (with_reducible assumption) | assumption)
                          have q203 : x6_3 < (l0_2.length : Int) := of_decide_eq_true (by first | (with_reducible assumption) | assumption)
                          obtain ⟨ad203, e203, hx203_0, hx203_1, hx203_2⟩ := at_T71 HR0_2.out x6_3 p203 q203
                          cases e203
                          replace hx203_0 := (HB.out.cell (World.block_lt_of_cell? w _ hx203_0)).trans hx203_0
                          replace hx203_1 := (HB.out.cell (World.block_lt_of_cell? w _ hx203_1)).trans hx203_1
                          replace hx203_2 := (HB.out.cell (World.block_lt_of_cell? w _ hx203_2)).trans hx203_2
                          replace p203 := eq_true p203
                          replace q203 := eq_true q203
                          go_wp2_with (first | ((with_reducible refine gate_dst (N := 7) rfl ?_); (try (refine gate_guard (by rfl) ?_; dsimp only)); refine box_event ?hg (N := 7) ?hd (cs := #[.int .i64 0, .int .i64 0, .int .u8 0]) (t := 71) ?hr ?_; (case hd => rfl); (case hg => rfl); (case hr => first | (go_simp; done) | (go_simp; rfl)); intro gb204 hg w62 hbox hb; have n0_ := Aside0.mk (blk_below (g := gb200) (o := .cells #[.bool a0_0, .slice A0_1 l0_1.length c0_1, .slice (some ad203) l0_2.length c0_2] 46 (0, 0)) (by (with_reducible repeat (first | refine blk_drewN ?_ _ | refine blk_drew ?_ | refine blk_alloc ?_ _)); exact BK200.out) hb); have n1_ := Aside0.mk (below_step (by repeat (first | (with_reducible first | exact HB.out | apply below_alloc | apply pw_below_drewN | apply below_drew1 | refine below_set ?_ GE200.out) | exact HB.out)) hb); have n2_ := Aside0.mk (hbox); have n3_ := Aside0.mk ((by rw [hg]; exact (below_size (by repeat (first | (with_reducible first | exact HB.out | apply below_alloc | apply pw_below_drewN | apply below_drew1 | refine below_set ?_ GE200.out) | exact HB.out))) : w.heap.size ≤ gb204)); have n4_ := Aside0.mk ((by rw [hg]; exact (below_size (by repeat (first | (with_reducible first | exact HB.out | apply below_alloc | apply pw_below_drewN | apply below_drew1 | refine below_set ?_ GE200.out) | exact HB.out))) : w.heap.size ≤ gb204)); have n5_ := Aside0.mk ((by rw [hg]; exact Nat.ne_of_lt (blk_lt (g := gb200) (o := .cells #[.bool a0_0, .slice A0_1 l0_1.length c0_1, .slice (some ad203) l0_2.length c0_2] 46 (0, 0)) (by (with_reducible repeat (first | refine blk_drewN ?_ _ | refine blk_drew ?_ | refine blk_alloc ?_ _)); exact BK200.out)) : gb200 ≠ gb204)); have n6_ := Aside0.mk ((by rw [hg]; exact Nat.ne_of_gt (blk_lt (g := gb200) (o := .cells #[.bool a0_0, .slice A0_1 l0_1.length c0_1, .slice (some ad203) l0_2.length c0_2] 46 (0, 0)) (by (with_reducible repeat (first | refine blk_drewN ?_ _ | refine blk_drew ?_ | refine blk_alloc ?_ _)); exact BK200.out)) : gb204 ≠ gb200)); clear BK200; clear HB; have BK200 := n0_; have HB := n1_; have BK204 := n2_; have GW204 := n3_; have GE204 := n4_; have NB200_204 := n5_; have NB204_200 := n6_; clear n0_ n1_ n2_ n3_ n4_ n5_ n6_; clear hb hbox hg; have hnb63 := NB204_200.out; have hnc63 := NB200_204.out; have hcz64_0 : w62.cell? ⟨gb204, 0, none⟩ = some (.int .i64 0) := (blk_cell BK204.out 0).trans rfl; have hcz64_1 : w62.cell? ⟨gb204, 1, none⟩ = some (.int .i64 0) := (blk_cell BK204.out 1).trans rfl; have hcz64_2 : w62.cell? ⟨gb204, 2, none⟩ = some (.int .u8 0) := (blk_cell BK204.out 2).trans rfl; have hfz64_0 := blk_frozen BK204.out 0; have hfz64_1 := blk_frozen BK204.out 1; have hfz64_2 := blk_frozen BK204.out 2))
                          go_ret
                          exact ⟨by first | rfl | (simp [errW_none, errW_some] <;> rfl) | (simp [*, errW_none, errW_some] <;> rfl), by repeat (first | (with_reducible first | exact HB.out | apply below_alloc | apply pw_below_drewN | apply below_drew1 | refine below_set ?_ GE200.out | refine below_set ?_ GE204.out) | exact HB.out)⟩
                        · rw [if_neg c60] at H
                          have c60b0 : decide (5 < ((rd_T71 l0_2 x6_3).f0)) = false := decide_eq_false c60
                          clear c60
                          by_cases c65 : ((rd_T71 l0_2 x6_3).f2) = 0
                          · rw [if_pos c65] at H
                            have c65b0 : (((rd_T71 l0_2 x6_3).f2) == 0) = true := beq_iff_eq.mpr c65
                            have c65b1 : (((rd_T71 l0_2 x6_3).f2) != 0) = false := bne_eq_false_iff_eq.mpr c65
                            clear c65
                            obtain rfl := Option.some.inj H
                            have hcz66_0 : wr.cell? ⟨gb200, 0, none⟩ = some (.bool a0_0) := (blk_cell BK200.out 0).trans rfl
                            have hcz66_1 : wr.cell? ⟨gb200, 1, none⟩ = some (.slice A0_1 l0_1.length c0_1) := (blk_cell BK200.out 1).trans rfl
                            have hcz66_2 : wr.cell? ⟨gb200, 2, none⟩ = some (.slice A0_2 l0_2.length c0_2) := (blk_cell BK200.out 2).trans rfl
                            have hfz66_0 := blk_frozen BK200.out 0
                            have hfz66_1 := blk_frozen BK200.out 1
                            have hfz66_2 := blk_frozen BK200.out 2
                            have p203 : 0 ≤ (x6_3 : Int) := of_decide_eq_true (by first | (with_reducible assumption) | assumption)
                            have q203 : x6_3 < (l0_2.length : Int) := of_decide_eq_true (by first | (with_reducible assumption) | assumption)
                            obtain ⟨ad203, e203, hx203_0, hx203_1, hx203_2⟩ := at_T71 HR0_2.out x6_3 p203 q203
                            cases e203
                            replace hx203_0 := (HB.out.cell (World.block_lt_of_cell? w _ hx203_0)).trans hx203_0
                            replace hx203_1 := (HB.out.cell (World.block_lt_of_cell? w _ hx203_1)).trans hx203_1
                            replace hx203_2 := (HB.out.cell (World.block_lt_of_cell? w _ hx203_2)).trans hx203_2
                            replace p203 := eq_true p203
                            replace q203 := eq_true q203
                            go_wp2_with (first | ((with_reducible refine gate_dst (N := 7) rfl ?_); (try (refine gate_guard (by rfl) ?_; dsimp only)); refine box_event ?hg (N := 7) ?hd (cs := #[.int .i64 0, .int .i64 0, .int .u8 0]) (t := 71) ?hr ?_; (case hd => rfl); (case hg => rfl); (case hr => first | (go_simp; done) | (go_simp; rfl)); intro gb204 hg w67 hbox hb; have n0_ := Aside0.mk (blk_below (g := gb200) (o := .cells #[.bool a0_0, .slice A0_1 l0_1.length c0_1, .slice (some ad203) l0_2.length c0_2] 46 (0, 0)) (by (with_reducible repeat (first | refine blk_drewN ?_ _ | refine blk_drew ?_ | refine blk_alloc ?_ _)); exact BK200.out) hb); have n1_ := Aside0.mk (below_step (by repeat (first | (with_reducible first | exact HB.out | apply below_alloc | apply pw_below_drewN | apply below_drew1 | refine below_set ?_ GE200.out) | exact HB.out)) hb); have n2_ := Aside0.mk (hbox); have n3_ := Aside0.mk ((by rw [hg]; exact (below_size (by repeat (first | (with_reducible first | exact HB.out | apply below_alloc | apply pw_below_drewN | apply below_drew1 | refine below_set ?_ GE200.out) | exact HB.out))) : w.heap.size ≤ gb204)); have n4_ := Aside0.mk ((by rw [hg]; exact (below_size (by repeat (first | (with_reducible first | exact HB.out | apply below_alloc | apply pw_below_drewN | apply below_drew1 | refine below_set ?_ GE200.out) | exact HB.out))) : w.heap.size ≤ gb204)); have n5_ := Aside0.mk ((by rw [hg]; exact Nat.ne_of_lt (blk_lt (g := gb200) (o := .cells #[.bool a0_0, .slice A0_1 l0_1.length c0_1, .slice (some ad203) l0_2.length c0_2] 46 (0, 0)) (by (with_reducible repeat (first | refine blk_drewN ?_ _ | refine blk_drew ?_ | refine blk_alloc ?_ _)); exact BK200.out)) : gb200 ≠ gb204)); have n6_ := Aside0.mk ((by rw [hg]; exact Nat.ne_of_gt (blk_lt (g := gb200) (o := .cells #[.bool a0_0, .slice A0_1 l0_1.length c0_1, .slice (some ad203) l0_2.length c0_2] 46 (0, 0)) (by (with_reducible repeat (first | refine blk_drewN ?_ _ | refine blk_drew ?_ | refine blk_alloc ?_ _)); exact BK200.out)) : gb204 ≠ gb200)); clear BK200; clear HB; have BK200 := n0_; have HB := n1_; have BK204 := n2_; have GW204 := n3_; have GE204 := n4_; have NB200_204 := n5_; have NB204_200 := n6_; clear n0_ n1_ n2_ n3_ n4_ n5_ n6_; clear hb hbox hg; have hnb68 := NB204_200.out; have hnc68 := NB200_204.out; have hcz69_0 : w67.cell? ⟨gb204, 0, none⟩ = some (.int .i64 0) := (blk_cell BK204.out 0).trans rfl; have hcz69_1 : w67.cell? ⟨gb204, 1, none⟩ = some (.int .i64 0) := (blk_cell BK204.out 1).trans rfl; have hcz69_2 : w67.cell? ⟨gb204, 2, none⟩ = some (.int .u8 0) := (blk_cell BK204.out 2).trans rfl; have hfz69_0 := blk_frozen BK204.out 0; have hfz69_1 := blk_frozen BK204.out 1; have hfz69_2 := blk_frozen BK204.out 2))
                            go_ret
                            exact ⟨by first | rfl | (simp [errW_none, errW_some] <;> rfl) | (simp [*, errW_none, errW_some] <;> rfl), by repeat (first | (with_reducible first | exact HB.out | apply below_alloc | apply pw_below_drewN | apply below_drew1 | refine below_set ?_ GE200.out | refine below_set ?_ GE204.out) | exact HB.out)⟩
                          · rw [if_neg c65] at H
                            have c65b0 : (((rd_T71 l0_2 x6_3).f2) == 0) = false := beq_eq_false_iff_ne.mpr c65
                            have c65b1 : (((rd_T71 l0_2 x6_3).f2) != 0) = true := bne_iff_ne.mpr c65
                            by_cases c70 : ((rd_T71 l0_2 x6_3).f1) < 0
                            · rw [if_pos c70] at H
                              have c70b0 : decide (((rd_T71 l0_2 x6_3).f1) < 0) = true := decide_eq_true c70
                              clear c70
                              obtain rfl := Option.some.inj H
                              have hcz71_0 : wr.cell? ⟨gb200, 0, none⟩ = some (.bool a0_0) := (blk_cell BK200.out 0).trans rfl
                              have hcz71_1 : wr.cell? ⟨gb200, 1, none⟩ = some (.slice A0_1 l0_1.length c0_1) := (blk_cell BK200.out 1).trans rfl
                              have hcz71_2 : wr.cell? ⟨gb200, 2, none⟩ = some (.slice A0_2 l0_2.length c0_2) := (blk_cell BK200.out 2).trans rfl
                              have hfz71_0 := blk_frozen BK200.out 0
                              have hfz71_1 := blk_frozen BK200.out 1
                              have hfz71_2 := blk_frozen BK200.out 2
                              have p203 : 0 ≤ (x6_3 : Int) := of_decide_eq_true (by first | (with_reducible assumption) | assumption)
                              have q203 : x6_3 < (l0_2.length : Int) := of_decide_eq_true (by first | (with_reducible assumption) | assumption)
                              obtain ⟨ad203, e203, hx203_0, hx203_1, hx203_2⟩ := at_T71 HR0_2.out x6_3 p203 q203
                              cases e203
                              replace hx203_0 := (HB.out.cell (World.block_lt_of_cell? w _ hx203_0)).trans hx203_0
                              replace hx203_1 := (HB.out.cell (World.block_lt_of_cell? w _ hx203_1)).trans hx203_1
                              replace hx203_2 := (HB.out.cell (World.block_lt_of_cell? w _ hx203_2)).trans hx203_2
                              replace p203 := eq_true p203
                              replace q203 := eq_true q203
                              go_wp2_with (first | ((with_reducible refine gate_dst (N := 7) rfl ?_); (try (refine gate_guard (by rfl) ?_; dsimp only)); refine box_event ?hg (N := 7) ?hd (cs := #[.int .i64 0, .int .i64 0, .int .u8 0]) (t := 71) ?hr ?_; (case hd => rfl); (case hg => rfl); (case hr => first | (go_simp; done) | (go_simp; rfl)); intro gb204 hg w72 hbox hb; have n0_ := Aside0.mk (blk_below (g := gb200) (o := .cells #[.bool a0_0, .slice A0_1 l0_1.length c0_1, .slice (some ad203) l0_2.length c0_2] 46 (0, 0)) (by (with_reducible repeat (first | refine blk_drewN ?_ _ | refine blk_drew ?_ | refine blk_alloc ?_ _)); exact BK200.out) hb); have n1_ := Aside0.mk (below_step (by repeat (first | (with_reducible first | exact HB.out | apply below_alloc | apply pw_below_drewN | apply below_drew1 | refine below_set ?_ GE200.out) | exact HB.out)) hb); have n2_ := Aside0.mk (hbox); have n3_ := Aside0.mk ((by rw [hg]; exact (below_size (by repeat (first | (with_reducible first | exact HB.out | apply below_alloc | apply pw_below_drewN | apply below_drew1 | refine below_set ?_ GE200.out) | exact HB.out))) : w.heap.size ≤ gb204)); have n4_ := Aside0.mk ((by rw [hg]; exact (below_size (by repeat (first | (with_reducible first | exact HB.out | apply below_alloc | apply pw_below_drewN | apply below_drew1 | refine below_set ?_ GE200.out) | exact HB.out))) : w.heap.size ≤ gb204)); have n5_ := Aside0.mk ((by rw [hg]; exact Nat.ne_of_lt (blk_lt (g := gb200) (o := .cells #[.bool a0_0, .slice A0_1 l0_1.length c0_1, .slice (some ad203) l0_2.length c0_2] 46 (0, 0)) (by (with_reducible repeat (first | refine blk_drewN ?_ _ | refine blk_drew ?_ | refine blk_alloc ?_ _)); exact BK200.out)) : gb200 ≠ gb204)); have n6_ := Aside0.mk ((by rw [hg]; exact Nat.ne_of_gt (blk_lt (g := gb200) (o := .cells #[.bool a0_0, .slice A0_1 l0_1.length c0_1, .slice (some ad203) l0_2.length c0_2] 46 (0, 0)) (by (with_reducible repeat (first | refine blk_drewN ?_ _ | refine blk_drew ?_ | refine blk_alloc ?_ _)); exact BK200.out)) : gb204 ≠ gb200)); clear BK200; clear HB; have BK200 := n0_; have HB := n1_; have BK204 := n2_; have GW204 := n3_; have GE204 := n4_; have NB200_204 := n5_; have NB204_200 := n6_; clear n0_ n1_ n2_ n3_ n4_ n5_ n6_; clear hb hbox hg; have hnb73 := NB204_200.out; have hnc73 := NB200_204.out; have hcz74_0 : w72.cell? ⟨gb204, 0, none⟩ = some (.int .i64 0) := (blk_cell BK204.out 0).trans rfl; have hcz74_1 : w72.cell? ⟨gb204, 1, none⟩ = some (.int .i64 0) := (blk_cell BK204.out 1).trans rfl; have hcz74_2 : w72.cell? ⟨gb204, 2, none⟩ = some (.int .u8 0) := (blk_cell BK204.out 2).trans rfl; have hfz74_0 := blk_frozen BK204.out 0; have hfz74_1 := blk_frozen BK204.out 1; have hfz74_2 := blk_frozen BK204.out 2))
                              go_ret
                              exact ⟨by first | rfl | (simp [errW_none, errW_some] <;> rfl) | (simp [*, errW_none, errW_some] <;> rfl), by repeat (first | (with_reducible first | exact HB.out | apply below_alloc | apply pw_below_drewN | apply below_drew1 | refine below_set ?_ GE200.out | refine below_set ?_ GE204.out) | exact HB.out)⟩
                            · rw [if_neg c70] at H
                              have c70b0 : decide (((rd_T71 l0_2 x6_3).f1) < 0) = false := decide_eq_false c70
                              clear c70
                              by_cases c75 : ((rd_T71 l0_2 x6_3).f0) = 4
                              · rw [if_pos c75] at H
                                have c75b0 : (((rd_T71 l0_2 x6_3).f0) == 4) = true := beq_iff_eq.mpr c75
                                have c75b1 : (((rd_T71 l0_2 x6_3).f0) != 4) = false := bne_eq_false_iff_eq.mpr c75
                                clear c75
                                by_cases c76 : ((rd_T71 l0_2 x6_3).f1) > 6
                                · rw [if_pos c76] at H
                                  have c76b0 : decide (6 < ((rd_T71 l0_2 x6_3).f1)) = true := decide_eq_true c76
                                  clear c76
                                  obtain rfl := Option.some.inj H
                                  have hcz77_0 : wr.cell? ⟨gb200, 0, none⟩ = some (.bool a0_0) := (blk_cell BK200.out 0).trans rfl
                                  have hcz77_1 : wr.cell? ⟨gb200, 1, none⟩ = some (.slice A0_1 l0_1.length c0_1) := (blk_cell BK200.out 1).trans rfl
                                  have hcz77_2 : wr.cell? ⟨gb200, 2, none⟩ = some (.slice A0_2 l0_2.length c0_2) := (blk_cell BK200.out 2).trans rfl
                                  have hfz77_0 := blk_frozen BK200.out 0
                                  have hfz77_1 := blk_frozen BK200.out 1
                                  have hfz77_2 := blk_frozen BK200.out 2
                                  have p203 : 0 ≤ (x6_3 : Int) := of_decide_eq_true (by first | (with_reducible assumption) | assumption)
                                  have q203 : x6_3 < (l0_2.length : Int) := of_decide_eq_true (by first | (with_reducible assumption) | assumption)
                                  obtain ⟨ad203, e203, hx203_0, hx203_1, hx203_2⟩ := at_T71 HR0_2.out x6_3 p203 q203
                                  cases e203
                                  replace hx203_0 := (HB.out.cell (World.block_lt_of_cell? w _ hx203_0)).trans hx203_0
                                  replace hx203_1 := (HB.out.cell (World.block_lt_of_cell? w _ hx203_1)).trans hx203_1
                                  replace hx203_2 := (HB.out.cell (World.block_lt_of_cell? w _ hx203_2)).trans hx203_2
                                  replace p203 := eq_true p203
                                  replace q203 := eq_true q203
                                  go_wp2_with (first | ((with_reducible refine gate_dst (N := 7) rfl ?_); (try (refine gate_guard (by rfl) ?_; dsimp only)); refine box_event ?hg (N := 7) ?hd (cs := #[.int .i64 0, .int .i64 0, .int .u8 0]) (t := 71) ?hr ?_; (case hd => rfl); (case hg => rfl); (case hr => first | (go_simp; done) | (go_simp; rfl)); intro gb204 hg w78 hbox hb; have n0_ := Aside0.mk (blk_below (g := gb200) (o := .cells #[.bool a0_0, .slice A0_1 l0_1.length c0_1, .slice (some ad203) l0_2.length c0_2] 46 (0, 0)) (by (with_reducible repeat (first | refine blk_drewN ?_ _ | refine blk_drew ?_ | refine blk_alloc ?_ _)); exact BK200.out) hb); have n1_ := Aside0.mk (below_step (by repeat (first | (with_reducible first | exact HB.out | apply below_alloc | apply pw_below_drewN | apply below_drew1 | refine below_set ?_ GE200.out) | exact HB.out)) hb); have n2_ := Aside0.mk (hbox); have n3_ := Aside0.mk ((by rw [hg]; exact (below_size (by repeat (first | (with_reducible first | exact HB.out | apply below_alloc | apply pw_below_drewN | apply below_drew1 | refine below_set ?_ GE200.out) | exact HB.out))) : w.heap.size ≤ gb204)); have n4_ := Aside0.mk ((by rw [hg]; exact (below_size (by repeat (first | (with_reducible first | exact HB.out | apply below_alloc | apply pw_below_drewN | apply below_drew1 | refine below_set ?_ GE200.out) | exact HB.out))) : w.heap.size ≤ gb204)); have n5_ := Aside0.mk ((by rw [hg]; exact Nat.ne_of_lt (blk_lt (g := gb200) (o := .cells #[.bool a0_0, .slice A0_1 l0_1.length c0_1, .slice (some ad203) l0_2.length c0_2] 46 (0, 0)) (by (with_reducible repeat (first | refine blk_drewN ?_ _ | refine blk_drew ?_ | refine blk_alloc ?_ _)); exact BK200.out)) : gb200 ≠ gb204)); have n6_ := Aside0.mk ((by rw [hg]; exact Nat.ne_of_gt (blk_lt (g := gb200) (o := .cells #[.bool a0_0, .slice A0_1 l0_1.length c0_1, .slice (some ad203) l0_2.length c0_2] 46 (0, 0)) (by (with_reducible repeat (first | refine blk_drewN ?_ _ | refine blk_drew ?_ | refine blk_alloc ?_ _)); exact BK200.out)) : gb204 ≠ gb200)); clear BK200; clear HB; have BK200 := n0_; have HB := n1_; have BK204 := n2_; have GW204 := n3_; have GE204 := n4_; have NB200_204 := n5_; have NB204_200 := n6_; clear n0_ n1_ n2_ n3_ n4_ n5_ n6_; clear hb hbox hg; have hnb79 := NB204_200.out; have hnc79 := NB200_204.out; have hcz80_0 : w78.cell? ⟨gb204, 0, none⟩ = some (.int .i64 0) := (blk_cell BK204.out 0).trans rfl; have hcz80_1 : w78.cell? ⟨gb204, 1, none⟩ = some (.int .i64 0) := (blk_cell BK204.out 1).trans rfl; have hcz80_2 : w78.cell? ⟨gb204, 2, none⟩ = some (.int .u8 0) := (blk_cell BK204.out 2).trans rfl; have hfz80_0 := blk_frozen BK204.out 0; have hfz80_1 := blk_frozen BK204.out 1; have hfz80_2 := blk_frozen BK204.out 2))
                                  go_ret
                                  exact ⟨by first | rfl | (simp [errW_none, errW_some] <;> rfl) | (simp [*, errW_none, errW_some] <;> rfl), by repeat (first | (with_reducible first | exact HB.out | apply below_alloc | apply pw_below_drewN | apply below_drew1 | refine below_set ?_ GE200.out | refine below_set ?_ GE204.out) | exact HB.out)⟩
                                · rw [if_neg c76] at H
                                  have c76b0 : decide (6 < ((rd_T71 l0_2 x6_3).f1)) = false := decide_eq_false c76
                                  clear c76
                                  have H' := Aside0.mk H
                                  clear H
                                  have hcz81_0 : wr.cell? ⟨gb200, 0, none⟩ = some (.bool a0_0) := (blk_cell BK200.out 0).trans rfl
                                  have hcz81_1 : wr.cell? ⟨gb200, 1, none⟩ = some (.slice A0_1 l0_1.length c0_1) := (blk_cell BK200.out 1).trans rfl
                                  have hcz81_2 : wr.cell? ⟨gb200, 2, none⟩ = some (.slice A0_2 l0_2.length c0_2) := (blk_cell BK200.out 2).trans rfl
                                  have hfz81_0 := blk_frozen BK200.out 0
                                  have hfz81_1 := blk_frozen BK200.out 1
                                  have hfz81_2 := blk_frozen BK200.out 2
                                  have p203 : 0 ≤ (x6_3 : Int) := of_decide_eq_true (by first | (with_reducible assumption) | assumption)
                                  have q203 : x6_3 < (l0_2.length : Int) := of_decide_eq_true (by first | (with_reducible assumption) | assumption)
                                  obtain ⟨ad203, e203, hx203_0, hx203_1, hx203_2⟩ := at_T71 HR0_2.out x6_3 p203 q203
                                  cases e203
                                  replace hx203_0 := (HB.out.cell (World.block_lt_of_cell? w _ hx203_0)).trans hx203_0
                                  replace hx203_1 := (HB.out.cell (World.block_lt_of_cell? w _ hx203_1)).trans hx203_1
                                  replace hx203_2 := (HB.out.cell (World.block_lt_of_cell? w _ hx203_2)).trans hx203_2
                                  replace p203 := eq_true p203
                                  replace q203 := eq_true q203
                                  go_wp2_with (first | ((with_reducible refine gate_dst (N := 7) rfl ?_); (try (refine gate_guard (by rfl) ?_; dsimp only)); refine box_event ?hg (N := 7) ?hd (cs := #[.int .i64 0, .int .i64 0, .int .u8 0]) (t := 71) ?hr ?_; (case hd => rfl); (case hg => rfl); (case hr => first | (go_simp; done) | (go_simp; rfl)); intro gb204 hg w82 hbox hb; have n0_ := Aside0.mk (blk_below (g := gb200) (o := .cells #[.bool a0_0, .slice A0_1 l0_1.length c0_1, .slice (some ad203) l0_2.length c0_2] 46 (0, 0)) (by (with_reducible repeat (first | refine blk_drewN ?_ _ | refine blk_drew ?_ | refine blk_alloc ?_ _)); exact BK200.out) hb); have n1_ := Aside0.mk (below_step (by repeat (first | (with_reducible first | exact HB.out | apply below_alloc | apply pw_below_drewN | apply below_drew1 | refine below_set ?_ GE200.out) | exact HB.out)) hb); have n2_ := Aside0.mk (hbox); have n3_ := Aside0.mk ((by rw [hg]; exact (below_size (by repeat (first | (with_reducible first | exact HB.out | apply below_alloc | apply pw_below_drewN | apply below_drew1 | refine below_set ?_ GE200.out) | exact HB.out))) : w.heap.size ≤ gb204)); have n4_ := Aside0.mk ((by rw [hg]; exact (below_size (by repeat (first | (with_reducible first | exact HB.out | apply below_alloc | apply pw_below_drewN | apply below_drew1 | refine below_set ?_ GE200.out) | exact HB.out))) : w.heap.size ≤ gb204)); have n5_ := Aside0.mk ((by rw [hg]; exact Nat.ne_of_lt (blk_lt (g := gb200) (o := .cells #[.bool a0_0, .slice A0_1 l0_1.length c0_1, .slice (some ad203) l0_2.length c0_2] 46 (0, 0)) (by (with_reducible repeat (first | refine blk_drewN ?_ _ | refine blk_drew ?_ | refine blk_alloc ?_ _)); exact BK200.out)) : gb200 ≠ gb204)); have n6_ := Aside0.mk ((by rw [hg]; exact Nat.ne_of_gt (blk_lt (g := gb200) (o := .cells #[.bool a0_0, .slice A0_1 l0_1.length c0_1, .slice (some ad203) l0_2.length c0_2] 46 (0, 0)) (by (with_reducible repeat (first | refine blk_drewN ?_ _ | refine blk_drew ?_ | refine blk_alloc ?_ _)); exact BK200.out)) : gb204 ≠ gb200)); clear BK200; clear HB; have BK200 := n0_; have HB := n1_; have BK204 := n2_; have GW204 := n3_; have GE204 := n4_; have NB200_204 := n5_; have NB204_200 := n6_; clear n0_ n1_ n2_ n3_ n4_ n5_ n6_; clear hb hbox hg; have hnb83 := NB204_200.out; have hnc83 := NB200_204.out; have hcz84_0 : w82.cell? ⟨gb204, 0, none⟩ = some (.int .i64 0) := (blk_cell BK204.out 0).trans rfl; have hcz84_1 : w82.cell? ⟨gb204, 1, none⟩ = some (.int .i64 0) := (blk_cell BK204.out 1).trans rfl; have hcz84_2 : w82.cell? ⟨gb204, 2, none⟩ = some (.int .u8 0) := (blk_cell BK204.out 2).trans rfl; have hfz84_0 := blk_frozen BK204.out 0; have hfz84_1 := blk_frozen BK204.out 1; have hfz84_2 := blk_frozen BK204.out 2))
                                  go_roundg k3
                                  case measure => have := HJ1.out; have := HK2.out; have := HK3.out; omega
                                  case rel => exact ⟨(wrap64 (x6_3 + 1)), (by first | rfl | (simp; done) | (simp [*]; done)), H', ⟨by have := HJ1.out; have := HK2.out; have := HK3.out; omega⟩, ⟨by (with_reducible repeat (first | refine blk_drewN ?_ _ | refine blk_drew ?_ | refine blk_alloc ?_ _)); refine blk_far ?_ NB200_204.out _; (with_reducible repeat (first | refine blk_drewN ?_ _ | refine blk_drew ?_ | refine blk_alloc ?_ _)); refine blk_far ?_ NB200_204.out _; (with_reducible repeat (first | refine blk_drewN ?_ _ | refine blk_drew ?_ | refine blk_alloc ?_ _)); refine blk_far ?_ NB200_204.out _; (with_reducible repeat (first | refine blk_drewN ?_ _ | refine blk_drew ?_ | refine blk_alloc ?_ _)); exact BK200.out⟩, ⟨by repeat (first | (with_reducible first | exact HB.out | apply below_alloc | apply pw_below_drewN | apply below_drew1 | refine below_set ?_ GE200.out | refine below_set ?_ GE204.out) | exact HB.out)⟩⟩
                              · rw [if_neg c75] at H
                                have c75b0 : (((rd_T71 l0_2 x6_3).f0) == 4) = false := beq_eq_false_iff_ne.mpr c75
                                have c75b1 : (((rd_T71 l0_2 x6_3).f0) != 4) = true := bne_iff_ne.mpr c75
                                by_cases c85 : ((rd_T71 l0_2 x6_3).f1) = 0
                                · rw [if_pos c85] at H
                                  have c85b0 : (((rd_T71 l0_2 x6_3).f1) == 0) = true := beq_iff_eq.mpr c85
                                  have c85b1 : (((rd_T71 l0_2 x6_3).f1) != 0) = false := bne_eq_false_iff_eq.mpr c85
                                  clear c85
                                  have H' := Aside0.mk H
                                  clear H
                                  have hcz86_0 : wr.cell? ⟨gb200, 0, none⟩ = some (.bool a0_0) := (blk_cell BK200.out 0).trans rfl
                                  have hcz86_1 : wr.cell? ⟨gb200, 1, none⟩ = some (.slice A0_1 l0_1.length c0_1) := (blk_cell BK200.out 1).trans rfl
                                  have hcz86_2 : wr.cell? ⟨gb200, 2, none⟩ = some (.slice A0_2 l0_2.length c0_2) := (blk_cell BK200.out 2).trans rfl
                                  have hfz86_0 := blk_frozen BK200.out 0
                                  have hfz86_1 := blk_frozen BK200.out 1
                                  have hfz86_2 := blk_frozen BK200.out 2
                                  have p203 : 0 ≤ (x6_3 : Int) := of_decide_eq_true (by first | (with_reducible assumption) | assumption)
                                  have q203 : x6_3 < (l0_2.length : Int) := of_decide_eq_true (by first | (with_reducible assumption) | assumption)
                                  obtain ⟨ad203, e203, hx203_0, hx203_1, hx203_2⟩ := at_T71 HR0_2.out x6_3 p203 q203
                                  cases e203
                                  replace hx203_0 := (HB.out.cell (World.block_lt_of_cell? w _ hx203_0)).trans hx203_0
                                  replace hx203_1 := (HB.out.cell (World.block_lt_of_cell? w _ hx203_1)).trans hx203_1
                                  replace hx203_2 := (HB.out.cell (World.block_lt_of_cell? w _ hx203_2)).trans hx203_2
                                  replace p203 := eq_true p203
                                  replace q203 := eq_true q203
                                  go_wp2_with (first | ((with_reducible refine gate_dst (N := 7) rfl ?_); (try (refine gate_guard (by rfl) ?_; dsimp only)); refine box_event ?hg (N := 7) ?hd (cs := #[.int .i64 0, .int .i64 0, .int .u8 0]) (t := 71) ?hr ?_; (case hd => rfl); (case hg => rfl); (case hr => first | (go_simp; done) | (go_simp; rfl)); intro gb204 hg w87 hbox hb; have n0_ := Aside0.mk (blk_below (g := gb200) (o := .cells #[.bool a0_0, .slice A0_1 l0_1.length c0_1, .slice (some ad203) l0_2.length c0_2] 46 (0, 0)) (by (with_reducible repeat (first | refine blk_drewN ?_ _ | refine blk_drew ?_ | refine blk_alloc ?_ _)); exact BK200.out) hb); have n1_ := Aside0.mk (below_step (by repeat (first | (with_reducible first | exact HB.out | apply below_alloc | apply pw_below_drewN | apply below_drew1 | refine below_set ?_ GE200.out) | exact HB.out)) hb); have n2_ := Aside0.mk (hbox); have n3_ := Aside0.mk ((by rw [hg]; exact (below_size (by repeat (first | (with_reducible first | exact HB.out | apply below_alloc | apply pw_below_drewN | apply below_drew1 | refine below_set ?_ GE200.out) | exact HB.out))) : w.heap.size ≤ gb204)); have n4_ := Aside0.mk ((by rw [hg]; exact (below_size (by repeat (first | (with_reducible first | exact HB.out | apply below_alloc | apply pw_below_drewN | apply below_drew1 | refine below_set ?_ GE200.out) | exact HB.out))) : w.heap.size ≤ gb204)); have n5_ := Aside0.mk ((by rw [hg]; exact Nat.ne_of_lt (blk_lt (g := gb200) (o := .cells #[.bool a0_0, .slice A0_1 l0_1.length c0_1, .slice (some ad203) l0_2.length c0_2] 46 (0, 0)) (by (with_reducible repeat (first | refine blk_drewN ?_ _ | refine blk_drew ?_ | refine blk_alloc ?_ _)); exact BK200.out)) : gb200 ≠ gb204)); have n6_ := Aside0.mk ((by rw [hg]; exact Nat.ne_of_gt (blk_lt (g := gb200) (o := .cells #[.bool a0_0, .slice A0_1 l0_1.length c0_1, .slice (some ad203) l0_2.length c0_2] 46 (0, 0)) (by (with_reducible repeat (first | refine blk_drewN ?_ _ | refine blk_drew ?_ | refine blk_alloc ?_ _)); exact BK200.out)) : gb204 ≠ gb200)); clear BK200; clear HB; have BK200 := n0_; have HB := n1_; have BK204 := n2_; have GW204 := n3_; have GE204 := n4_; have NB200_204 := n5_; have NB204_200 := n6_; clear n0_ n1_ n2_ n3_ n4_ n5_ n6_; clear hb hbox hg; have hnb88 := NB204_200.out; have hnc88 := NB200_204.out; have hcz89_0 : w87.cell? ⟨gb204, 0, none⟩ = some (.int .i64 0) := (blk_cell BK204.out 0).trans rfl; have hcz89_1 : w87.cell? ⟨gb204, 1, none⟩ = some (.int .i64 0) := (blk_cell BK204.out 1).trans rfl; have hcz89_2 : w87.cell? ⟨gb204, 2, none⟩ = some (.int .u8 0) := (blk_cell BK204.out 2).trans rfl; have hfz89_0 := blk_frozen BK204.out 0; have hfz89_1 := blk_frozen BK204.out 1; have hfz89_2 := blk_frozen BK204.out 2))
                                  go_roundg k3
                                  case measure => have := HJ1.out; have := HK2.out; have := HK3.out; omega
                                  case rel => exact ⟨(wrap64 (x6_3 + 1)), (by first | rfl | (simp; done) | (simp [*]; done)), H', ⟨by have := HJ1.out; have := HK2.out; have := HK3.out; omega⟩, ⟨by (with_reducible repeat (first | refine blk_drewN ?_ _ | refine blk_drew ?_ | refine blk_alloc ?_ _)); refine blk_far ?_ NB200_204.out _; (with_reducible repeat (first | refine blk_drewN ?_ _ | refine blk_drew ?_ | refine blk_alloc ?_ _)); refine blk_far ?_ NB200_204.out _; (with_reducible repeat (first | refine blk_drewN ?_ _ | refine blk_drew ?_ | refine blk_alloc ?_ _)); refine blk_far ?_ NB200_204.out _; (with_reducible repeat (first | refine blk_drewN ?_ _ | refine blk_drew ?_ | refine blk_alloc ?_ _)); exact BK200.out⟩, ⟨by repeat (first | (with_reducible first | exact HB.out | apply below_alloc | apply pw_below_drewN | apply below_drew1 | refine below_set ?_ GE200.out | refine below_set ?_ GE204.out) | exact HB.out)⟩⟩
                                · rw [if_neg c85] at H
                                  have c85b0 : (((rd_T71 l0_2 x6_3).f1) == 0) = false := beq_eq_false_iff_ne.mpr c85
                                  have c85b1 : (((rd_T71 l0_2 x6_3).f1) != 0) = true := bne_iff_ne.mpr c85
                                  obtain rfl := Option.some.inj H
                                  have hcz90_0 : wr.cell? ⟨gb200, 0, none⟩ = some (.bool a0_0) := (blk_cell BK200.out 0).trans rfl
                                  have hcz90_1 : wr.cell? ⟨gb200, 1, none⟩ = some (.slice A0_1 l0_1.length c0_1) := (blk_cell BK200.out 1).trans rfl
                                  have hcz90_2 : wr.cell? ⟨gb200, 2, none⟩ = some (.slice A0_2 l0_2.length c0_2) := (blk_cell BK200.out 2).trans rfl
                                  have hfz90_0 := blk_frozen BK200.out 0
                                  have hfz90_1 := blk_frozen BK200.out 1
                                  have hfz90_2 := blk_frozen BK200.out 2
                                  have p203 : 0 ≤ (x6_3 : Int) := of_decide_eq_true (by first | (with_reducible assumption) | assumption)
                                  have q203 : x6_3 < (l0_2.length : Int) := of_decide_eq_true (by first | (with_reducible assumption) | assumption)
                                  obtain ⟨ad203, e203, hx203_0, hx203_1, hx203_2⟩ := at_T71 HR0_2.out x6_3 p203 q203
                                  cases e203
                                  replace hx203_0 := (HB.out.cell (World.block_lt_of_cell? w _ hx203_0)).trans hx203_0
                                  replace hx203_1 := (HB.out.cell (World.block_lt_of_cell? w _ hx203_1)).trans hx203_1
                                  replace hx203_2 := (HB.out.cell (World.block_lt_of_cell? w _ hx203_2)).trans hx203_2
                                  replace p203 := eq_true p203
                                  replace q203 := eq_true q203
                                  go_wp2_with (first | ((with_reducible refine gate_dst (N := 7) rfl ?_); (try (refine gate_guard (by rfl) ?_; dsimp only)); refine box_event ?hg (N := 7) ?hd (cs := #[.int .i64 0, .int .i64 0, .int .u8 0]) (t := 71) ?hr ?_; (case hd => rfl); (case hg => rfl); (case hr => first | (go_simp; done) | (go_simp; rfl)); intro gb204 hg w91 hbox hb; have n0_ := Aside0.mk (blk_below (g := gb200) (o := .cells #[.bool a0_0, .slice A0_1 l0_1.length c0_1, .slice (some ad203) l0_2.length c0_2] 46 (0, 0)) (by (with_reducible repeat (first | refine blk_drewN ?_ _ | refine blk_drew ?_ | refine blk_alloc ?_ _)); exact BK200.out) hb); have n1_ := Aside0.mk (below_step (by repeat (first | (with_reducible first | exact HB.out | apply below_alloc | apply pw_below_drewN | apply below_drew1 | refine below_set ?_ GE200.out) | exact HB.out)) hb); have n2_ := Aside0.mk (hbox); have n3_ := Aside0.mk ((by rw [hg]; exact (below_size (by repeat (first | (with_reducible first | exact HB.out | apply below_alloc | apply pw_below_drewN | apply below_drew1 | refine below_set ?_ GE200.out) | exact HB.out))) : w.heap.size ≤ gb204)); have n4_ := Aside0.mk ((by rw [hg]; exact (below_size (by repeat (first | (with_reducible first | exact HB.out | apply below_alloc | apply pw_below_drewN | apply below_drew1 | refine below_set ?_ GE200.out) | exact HB.out))) : w.heap.size ≤ gb204)); have n5_ := Aside0.mk ((by rw [hg]; exact Nat.ne_of_lt (blk_lt (g := gb200) (o := .cells #[.bool a0_0, .slice A0_1 l0_1.length c0_1, .slice (some ad203) l0_2.length c0_2] 46 (0, 0)) (by (with_reducible repeat (first | refine blk_drewN ?_ _ | refine blk_drew ?_ | refine blk_alloc ?_ _)); exact BK200.out)) : gb200 ≠ gb204)); have n6_ := Aside0.mk ((by rw [hg]; exact Nat.ne_of_gt (blk_lt (g := gb200) (o := .cells #[.bool a0_0, .slice A0_1 l0_1.length c0_1, .slice (some ad203) l0_2.length c0_2] 46 (0, 0)) (by (with_reducible repeat (first | refine blk_drewN ?_ _ | refine blk_drew ?_ | refine blk_alloc ?_ _)); exact BK200.out)) : gb204 ≠ gb200)); clear BK200; clear HB; have BK200 := n0_; have HB := n1_; have BK204 := n2_; have GW204 := n3_; have GE204 := n4_; have NB200_204 := n5_; have NB204_200 := n6_; clear n0_ n1_ n2_ n3_ n4_ n5_ n6_; clear hb hbox hg; have hnb92 := NB204_200.out; have hnc92 := NB200_204.out; have hcz93_0 : w91.cell? ⟨gb204, 0, none⟩ = some (.int .i64 0) := (blk_cell BK204.out 0).trans rfl; have hcz93_1 : w91.cell? ⟨gb204, 1, none⟩ = some (.int .i64 0) := (blk_cell BK204.out 1).trans rfl; have hcz93_2 : w91.cell? ⟨gb204, 2, none⟩ = some (.int .u8 0) := (blk_cell BK204.out 2).trans rfl; have hfz93_0 := blk_frozen BK204.out 0; have hfz93_1 := blk_frozen BK204.out 1; have hfz93_2 := blk_frozen BK204.out 2))
                                  go_ret
                                  exact ⟨by first | rfl | (simp [errW_none, errW_some] <;> rfl) | (simp [*, errW_none, errW_some] <;> rfl), by repeat (first | (with_reducible first | exact HB.out | apply below_alloc | apply pw_below_drewN | apply below_drew1 | refine below_set ?_ GE200.out | refine below_set ?_ GE204.out) | exact HB.out)⟩
                    · rw [if_neg c54] at H
                      exact absurd H (by simp)
                  · rw [if_neg c53] at H
                    have c53b0 : decide (x6_3 < (l0_2.length : Int)) = false := decide_eq_false c53
                    clear c53
                    obtain rfl := Option.some.inj H
                    have hcz94_0 : wr.cell? ⟨gb200, 0, none⟩ = some (.bool a0_0) := (blk_cell BK200.out 0).trans rfl
                    have hcz94_1 : wr.cell? ⟨gb200, 1, none⟩ = some (.slice A0_1 l0_1.length c0_1) := (blk_cell BK200.out 1).trans rfl
                    have hcz94_2 : wr.cell? ⟨gb200, 2, none⟩ = some (.slice A0_2 l0_2.length c0_2) := (blk_cell BK200.out 2).trans rfl
                    have hfz94_0 := blk_frozen BK200.out 0
                    have hfz94_1 := blk_frozen BK200.out 1
                    have hfz94_2 := blk_frozen BK200.out 2
                    go_wp2
                    go_ret
                    exact ⟨by first | rfl | (simp [errW_none, errW_some] <;> rfl) | (simp [*, errW_none, errW_some] <;> rfl), by repeat (first | (with_reducible first | exact HB.out | apply below_alloc | apply pw_below_drewN | apply below_drew1 | refine below_set ?_ GE200.out) | exact HB.out)⟩

end Go.Proofs.Ytlhoaejkjhdlgaa.PPolicyBytes
