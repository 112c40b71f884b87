/- What ImageMoved answers: the walk against a plain function on lists (its lines began as print.sh's). -/
import Derived.Test.YtcjaepmecihmlaaI8
namespace Go.Proofs.Ytcjaepmecihmlaa.Img
open Go.RowKit Go.Proofs.YtcjaepmecihmlaaW.PrintWords Go.Proofs.YtcjaepmecihmlaaW.PrintLast Go.Proofs.YtcjaepmecihmlaaW.PrintMore
attribute [local go_sem] max2_int min2_int max_two min_two max_three min_three max_four min_four   -- for this text's walks alone
set_option linter.unusedVariables false
set_option linter.unusedSimpArgs false
theorem k30_heap : Kd.Heap k30 := Kd.heap_iso _ (Kd.heap_pair (Kd.heap_int .u32) (Kd.heap_pair (Kd.heap_int .u32) (Kd.heap_pair (Kd.heap_int .i64) (Kd.heap_slice 5 (Kd.heap_int .u8)))))
theorem k65_heap : Kd.Heap k65 := Kd.heap_iso _ (Kd.heap_pair (Kd.heap_int .u32) (Kd.heap_pair (Kd.heap_int .u32) (Kd.heap_pair (Kd.heap_int .i64) (Kd.heap_slice 5 (Kd.heap_int .u8)))))
/-! ### tincturelaw8_ImageMoved: function 6 -/
def tincturelaw8_ImageMoved.j0 : Nat → List Int → Bool → Int → List (S30) → Option (Bool)
  | 0, _, _, _, _ => none
  | k + 1, x1, x26, x277000, x277001 => if x26 = true then (some true) else ((image_Put.f k x277000 x277001).bind fun bt279 => (if bt279.2 = 0 then (if 0 < (x277001.length : Int) then ((some (([] : List Int) : List Int)).bind fun y284 => (if 84 ≤ (bt279.1.length : Int) then ((some (bt279.1.take 84 : List Int)).bind fun y287 => (if y284.length + y287.length < 140737488355328 then ((some (y284 ++ y287 : List Int)).bind fun y292 => (if y292.length + x1.length < 140737488355328 then ((some (y292 ++ x1 : List Int)).bind fun y295 => (if y295.length + ((rd_T30 x277001 0).f3).length < 140737488355328 then ((some (y295 ++ ((rd_T30 x277001 0).f3) : List Int)).bind fun y299 => (if 56 < (y299.length : Int) then (if 57 < (y299.length : Int) then ((image_Get.f k ((y299.set (56 : Int).toNat ((wrap64 (84 + (x1.length : Int))) % 256)).set (57 : Int).toNat (((wrap64 (84 + (x1.length : Int))) / 256) % 256))).bind fun bt304 => (if (y299.length : Int) > 65536 then (some true) else (if bt304.2.2 = 0 then ((tincturelaw8_img.f k bt304.1 bt304.2.1).bind fun bt310 => ((tincturelaw8_img.f k x277000 x277001).bind fun bt314 => ((tincturelaw8_sameImage.f k bt310.1 bt310.2 bt314.1 bt314.2).bind fun t318 => (if t318 = true then (if 0 < (bt304.2.1.length : Int) then (some ((((rd_T30 bt304.2.1 0).f3).length : Int) == (((rd_T30 x277001 0).f3).length : Int))) else (none)) else (some false))))) else (some false)))) else (none)) else (none))) else (none))) else (none))) else (none))) else (none))) else (none)) else (some true)))
def tincturelaw8_ImageMoved.f (k : Nat) (a0_0 : Int) (l0_1 : List (S30)) (l1 : List Int) : Option (Bool) := (tincturelaw8_awake.f k).bind fun t277 => (if t277 = true then ((tincturelaw8_great.f k a0_0 l0_1).bind fun t278 => (if t278 = true then (tincturelaw8_ImageMoved.j0 k l1 true a0_0 l0_1) else (if (l0_1.length : Int) = 1 then (tincturelaw8_ImageMoved.j0 k l1 (decide ((l1.length : Int) > 300)) a0_0 l0_1) else (tincturelaw8_ImageMoved.j0 k l1 true a0_0 l0_1)))) else (some false))
theorem tincturelaw8_ImageMoved.mono_l : ∀ k, (∀ y0 y1 y2 y3, LeO (tincturelaw8_ImageMoved.j0 k y0 y1 y2 y3) (tincturelaw8_ImageMoved.j0 (k + 1) y0 y1 y2 y3))
  | 0 => fun _ _ _ _ r h => by simp [tincturelaw8_ImageMoved.j0] at h
  | k + 1 => by
    have ih0 := tincturelaw8_ImageMoved.mono_l k
    · intro y0 y1 y2 y3
      unfold tincturelaw8_ImageMoved.j0
      repeat' first
      | (with_reducible exact ih0 _ _ _ _)
      | (with_reducible exact image_Get.mono _ _)
      | (with_reducible exact image_Put.mono _ _ _)
      | (with_reducible exact tincturelaw8_awake.mono _)
      | (with_reducible exact tincturelaw8_great.mono _ _ _)
      | (with_reducible exact tincturelaw8_img.mono _ _ _)
      | (with_reducible exact tincturelaw8_sameImage.mono _ _ _ _ _)
      | (with_reducible exact LeO.refl _)
      | (with_reducible exact LeO.none _)
      | (with_reducible refine LeO.ite ?_ ?_)
      | (with_reducible refine LeO.bind ?_ (fun _ => ?_))
      | exact ih0 _ _ _ _
      | exact image_Get.mono _ _
      | exact image_Put.mono _ _ _
      | exact tincturelaw8_awake.mono _
      | exact tincturelaw8_great.mono _ _ _
      | exact tincturelaw8_img.mono _ _ _
      | exact tincturelaw8_sameImage.mono _ _ _ _ _
      | exact LeO.none _
      | refine LeO.ite ?_ ?_
      | refine LeO.bind ?_ (fun _ => ?_)
theorem tincturelaw8_ImageMoved.mono : ∀ a0 a1 a2 k, LeO (tincturelaw8_ImageMoved.f k a0 a1 a2) (tincturelaw8_ImageMoved.f (k + 1) a0 a1 a2) := by
  intro a0 a1 a2 k
  have ih0 := tincturelaw8_ImageMoved.mono_l k
  unfold tincturelaw8_ImageMoved.f
  repeat' first
      | (with_reducible exact ih0 _ _ _ _)
      | (with_reducible exact image_Get.mono _ _)
      | (with_reducible exact image_Put.mono _ _ _)
      | (with_reducible exact tincturelaw8_awake.mono _)
      | (with_reducible exact tincturelaw8_great.mono _ _ _)
      | (with_reducible exact tincturelaw8_img.mono _ _ _)
      | (with_reducible exact tincturelaw8_sameImage.mono _ _ _ _ _)
      | (with_reducible exact LeO.refl _)
      | (with_reducible exact LeO.none _)
      | (with_reducible refine LeO.ite ?_ ?_)
      | (with_reducible refine LeO.bind ?_ (fun _ => ?_))
      | exact ih0 _ _ _ _
      | exact image_Get.mono _ _
      | exact image_Put.mono _ _ _
      | exact tincturelaw8_awake.mono _
      | exact tincturelaw8_great.mono _ _ _
      | exact tincturelaw8_img.mono _ _ _
      | exact tincturelaw8_sameImage.mono _ _ _ _ _
      | exact LeO.none _
      | refine LeO.ite ?_ ?_
      | refine LeO.bind ?_ (fun _ => ?_)
def tincturelaw8_ImageMoved.T9 : Bool × List (List Nat × List Nat) := (true, [([], []), ([], []), ([1], [1]), ([0, 2], [0, 2]), ([], []), ([3, 4, 3], [3, 4]), ([], []), ([6], [6]), ([7], [7]), ([8], [8]), ([9], [9]), ([5, 10, 5], [5, 10]), ([11, 11, 0, 1, 2, 3, 4, 5, 6, 7, 8, 9, 10, 11], [11])])
def tincturelaw8_ImageMoved.B9 : List Nat := [0, 0, 2, 7, 0, 31, 0, 64, 192, 448, 960, 2047, 4095]
theorem tincturelaw8_ImageMoved.tab9 : rtab .any (opsOf Try.f6 9) = tincturelaw8_ImageMoved.T9 := by kernel_rfl
theorem tincturelaw8_ImageMoved.bits9 : waitsOk tincturelaw8_ImageMoved.T9.2 tincturelaw8_ImageMoved.B9 = true := by kernel_rfl
def tincturelaw8_ImageMoved.T13 : Bool × List (List Nat × List Nat) := (true, [([], []), ([0], [0]), ([1], [1]), ([2], [2]), ([3], [3]), ([4, 3], [3, 4]), ([5, 3, 3], [3, 5]), ([6], [6]), ([7, 6, 6], [6, 7]), ([6], [6]), ([9, 8, 6], [6, 9]), ([8, 10, 10, 6], [6, 8, 10]), ([6, 11, 3], [3, 6, 11]), ([12, 11, 3], [3, 12]), ([13], [13]), ([14, 13], [13, 14]), ([15, 13], [13, 15]), ([16, 13], [13, 16]), ([17, 13], [13, 17]), ([18, 13], [13, 18]), ([13], [13]), ([19, 20, 13], [13, 19, 20]), ([13, 21, 3], [3, 13, 21]), ([3, 22], [3, 22]), ([23, 13, 0, 1, 2, 3, 4, 5, 6, 7, 8, 9, 10, 11, 12, 13, 14, 15, 16, 17, 18, 19, 20, 21, 22, 23], [23])])
def tincturelaw8_ImageMoved.B13 : List Nat := [0, 1, 3, 7, 15, 31, 63, 127, 255, 127, 1023, 2047, 4095, 8191, 16383, 32767, 65535, 131071, 262143, 524287, 16383, 2097151, 4194303, 8388607, 16777215]
theorem tincturelaw8_ImageMoved.tab13 : rtab .any (opsOf Try.f6 13) = tincturelaw8_ImageMoved.T13 := by kernel_rfl
theorem tincturelaw8_ImageMoved.bits13 : waitsOk tincturelaw8_ImageMoved.T13.2 tincturelaw8_ImageMoved.B13 = true := by kernel_rfl
set_option maxHeartbeats 8000000 in
set_option maxRecDepth 100000 in
theorem tincturelaw8_ImageMoved.calls (k : Nat) (a0_0 : Int) (A0_1 : Option Addr) (c0_1 : Nat) (l0_1 : List (S30)) (A1 : Option Addr) (c1 : Nat) (l1 : List Int) (r : Bool) (w : World) (hr0_1 : Kd.C k30 w A0_1 l0_1.length l0_1) (hc0_1 : l0_1.length ≤ c0_1) (hr1 : Kd.C (Kd.int .u8) w A1 l1.length l1) (hc1 : l1.length ≤ c1) (h : tincturelaw8_ImageMoved.f k a0_0 l0_1 l1 = some r) :
    Calls Try.prog 6 #[.agg #[.int .u32 a0_0, .slice A0_1 l0_1.length c0_1], .slice A1 l1.length c1] w fun e w' => e = .returned (.bool r) ∧ Below w.heap.size w w' := by
  have hu26 := Try.underlying26
  have HR0_1 := Aside0.mk hr0_1
  have HC0_1 := Aside0.mk hc0_1
  clear hr0_1 hc0_1
  have HR1 := Aside0.mk hr1
  have HC1 := Aside0.mk hc1
  clear hr1 hc1
  have HB := Aside0.mk (Below.refl w.heap.size w)
  have H : ((tincturelaw8_awake.f k).bind fun t277 => (if t277 = true then ((tincturelaw8_great.f k a0_0 l0_1).bind fun t278 => (if t278 = true then (tincturelaw8_ImageMoved.j0 k l1 true a0_0 l0_1) else (if (l0_1.length : Int) = 1 then (tincturelaw8_ImageMoved.j0 k l1 (decide ((l1.length : Int) > 300)) a0_0 l0_1) else (tincturelaw8_ImageMoved.j0 k l1 true a0_0 l0_1)))) else (some false))) = some r := h
  clear h
  replace H := Option.bind_eq_some_iff.mp H
  obtain ⟨t277, A30, H⟩ := H
  replace H : (if t277 = true then ((tincturelaw8_great.f k a0_0 l0_1).bind fun t278 => (if t278 = true then (tincturelaw8_ImageMoved.j0 k l1 true a0_0 l0_1) else (if (l0_1.length : Int) = 1 then (tincturelaw8_ImageMoved.j0 k l1 (decide ((l1.length : Int) > 300)) a0_0 l0_1) else (tincturelaw8_ImageMoved.j0 k l1 true a0_0 l0_1)))) else (some false)) = some r := H
  have A3 := Aside0.mk A30
  clear A30
  by_cases c4 : t277 = true
  rotate_left
  · replace c4 := Bool.eq_false_iff.mpr c4
    subst c4
    have H1 : (some false) = some r := by rw [if_neg (show ¬ (false = true) by decide)] at H; exact H
    clear H
    have H := H1
    clear H1
    obtain rfl := Option.some.inj H
    go_enter Try.func6, Try.ntmps6
    go_wp2_with (first | ((with_reducible refine gate_dst (N := 2) rfl ?_); (try (refine gate_guard (by rfl) ?_; dsimp only)); refine box_event ?hg (N := 2) ?hd (cs := #[.int .u32 a0_0, .slice A0_1 l0_1.length c0_1]) (t := 26) ?hr ?_; (case hd => rfl); (case hg => rfl); (case hr => first | (go_simp; done) | (go_simp; rfl)); intro gb276 hg w139 hbox hb; have n0_ := Aside0.mk (below_step (by with_reducible repeat (first | exact HB.out | apply below_alloc | apply pw_below_drewN | apply below_drew1)) hb); have n1_ := Aside0.mk (hbox); have n2_ := Aside0.mk ((by rw [hg]; exact (below_size (by with_reducible repeat (first | exact HB.out | apply below_alloc | apply pw_below_drewN | apply below_drew1))) : w.heap.size ≤ gb276)); have n3_ := Aside0.mk ((by rw [hg]; exact (below_size (by with_reducible repeat (first | exact HB.out | apply below_alloc | apply pw_below_drewN | apply below_drew1))) : w.heap.size ≤ gb276)); clear HB; have HB := n0_; have BK276 := n1_; have GW276 := n2_; have GE276 := n3_; clear n0_ n1_ n2_ n3_; clear hb hbox hg) | ((with_reducible refine gate_callee (f := 8) rfl ?_); refine goesL_ (some 12) rfl rfl Try.func8 (by kernel_rfl) rfl #[] rfl (by (try simp only [List.map_toArray, List.map_cons, List.map_nil]); first | done | rfl | (simp only [List.length_drop, List.length_take]; rfl)) ?_; (with_reducible refine (tincturelaw8_awake.calls k  false _ A3.out).mono ?_); rintro e w140 ⟨rfl, hb⟩; refine ⟨_, rfl, ?_⟩; have n0_ := Aside0.mk (blk_below (g := gb276) (o := .cells #[.int .u32 a0_0, .slice A0_1 l0_1.length c0_1] 26 (0, 0)) (by (with_reducible repeat (first | refine blk_drewN ?_ _ | refine blk_drew ?_ | refine blk_alloc ?_ _)); exact BK276.out) hb); have n1_ := Aside0.mk (below_step (by with_reducible repeat (first | exact HB.out | apply below_alloc | apply pw_below_drewN | apply below_drew1 | refine below_set ?_ GE276.out)) hb); clear BK276; clear HB; have BK276 := n0_; have HB := n1_; clear n0_ n1_; (try clear hb); (try clear hb2); (try clear hk); (try clear hi)))
    go_ret
    exact ⟨by first | rfl | (simp [errW_none, errW_some] <;> rfl) | (simp [*, errW_none, errW_some] <;> rfl), by with_reducible repeat (first | exact HB.out | apply below_alloc | apply pw_below_drewN | apply below_drew1 | refine below_set ?_ GE276.out)⟩
  subst c4
  have H1 : ((tincturelaw8_great.f k a0_0 l0_1).bind fun t278 => (if t278 = true then (tincturelaw8_ImageMoved.j0 k l1 true a0_0 l0_1) else (if (l0_1.length : Int) = 1 then (tincturelaw8_ImageMoved.j0 k l1 (decide ((l1.length : Int) > 300)) a0_0 l0_1) else (tincturelaw8_ImageMoved.j0 k l1 true a0_0 l0_1)))) = some r := by rw [if_pos rfl] at H; exact H
  clear H
  have H := H1
  clear H1
  have HC5 := Aside0.mk H
  clear H
  go_enter Try.func6, Try.ntmps6
  go_upto_region 3 with (first | ((with_reducible refine gate_dst (N := 2) rfl ?_); (try (refine gate_guard (by rfl) ?_; dsimp only)); refine box_event ?hg (N := 2) ?hd (cs := #[.int .u32 a0_0, .slice A0_1 l0_1.length c0_1]) (t := 26) ?hr ?_; (case hd => rfl); (case hg => rfl); (case hr => first | (go_simp; done) | (go_simp; rfl)); intro gb276 hg w6 hbox hb; have n0_ := Aside0.mk (below_step (by with_reducible repeat (first | exact HB.out | apply below_alloc | apply pw_below_drewN | apply below_drew1)) hb); have n1_ := Aside0.mk (hbox); have n2_ := Aside0.mk ((by rw [hg]; exact (below_size (by with_reducible repeat (first | exact HB.out | apply below_alloc | apply pw_below_drewN | apply below_drew1))) : w.heap.size ≤ gb276)); have n3_ := Aside0.mk ((by rw [hg]; exact (below_size (by with_reducible repeat (first | exact HB.out | apply below_alloc | apply pw_below_drewN | apply below_drew1))) : w.heap.size ≤ gb276)); clear HB; have HB := n0_; have BK276 := n1_; have GW276 := n2_; have GE276 := n3_; clear n0_ n1_ n2_ n3_; clear hb hbox hg) | ((with_reducible refine gate_callee (f := 8) rfl ?_); refine goesL_ (some 12) rfl rfl Try.func8 (by kernel_rfl) rfl #[] rfl (by (try simp only [List.map_toArray, List.map_cons, List.map_nil]); first | done | rfl | (simp only [List.length_drop, List.length_take]; rfl)) ?_; (with_reducible refine (tincturelaw8_awake.calls k  true _ A3.out).mono ?_); rintro e w7 ⟨rfl, hb⟩; refine ⟨_, rfl, ?_⟩; have n0_ := Aside0.mk (blk_below (g := gb276) (o := .cells #[.int .u32 a0_0, .slice A0_1 l0_1.length c0_1] 26 (0, 0)) (by (with_reducible repeat (first | refine blk_drewN ?_ _ | refine blk_drew ?_ | refine blk_alloc ?_ _)); exact BK276.out) hb); have n1_ := Aside0.mk (below_step (by with_reducible repeat (first | exact HB.out | apply below_alloc | apply pw_below_drewN | apply below_drew1 | refine below_set ?_ GE276.out)) hb); clear BK276; clear HB; have BK276 := n0_; have HB := n1_; clear n0_ n1_; (try clear hb); (try clear hb2); (try clear hk); (try clear hi)))
  (try simp only [Act.put, List.setIfInBounds_toArray, List.set_cons_zero, List.set_cons_succ])
  go_cut [26] (fun v26 wc => ∃ (kq : Nat) (x26_4 : Bool), v26 = .bool x26_4 ∧ Aside0 (tincturelaw8_ImageMoved.j0 kq l1 x26_4 a0_0 l0_1 = some r) ∧ Aside0 (kq ≤ k) ∧ Aside0 (wc.heap[gb276]? = some (.cells #[.int .u32 a0_0, (.slice A0_1 l0_1.length c0_1)] 26 (0, 0))) ∧ Aside0 (Below w.heap.size w wc))
  case first =>
    have H := HC5.out
    clear HC5
    replace H := Option.bind_eq_some_iff.mp H
    obtain ⟨t278, A80, H⟩ := H
    replace H : (if t278 = true then (tincturelaw8_ImageMoved.j0 k l1 true a0_0 l0_1) else (if (l0_1.length : Int) = 1 then (tincturelaw8_ImageMoved.j0 k l1 (decide ((l1.length : Int) > 300)) a0_0 l0_1) else (tincturelaw8_ImageMoved.j0 k l1 true a0_0 l0_1))) = some r := H
    have A8 := Aside0.mk A80
    clear A80
    by_cases c9 : t278 = true
    · subst c9
      have H1 : (tincturelaw8_ImageMoved.j0 k l1 true a0_0 l0_1) = some r := by rw [if_pos rfl] at H; exact H
      clear H
      have H := H1
      clear H1
      have H' := Aside0.mk H
      clear H
      have hcz10_0 : w7.cell? ⟨gb276, 0, none⟩ = some (.int .u32 a0_0) := (blk_cell BK276.out 0).trans rfl
      have hcz10_1 : w7.cell? ⟨gb276, 1, none⟩ = some (.slice A0_1 l0_1.length c0_1) := (blk_cell BK276.out 1).trans rfl
      have hfz10_0 := blk_frozen BK276.out 0
      have hfz10_1 := blk_frozen BK276.out 1
      go_wp2_with (first | ((with_reducible refine gate_callee (f := 13) rfl ?_); refine goesL_ (some 15) rfl rfl Try.func13 (by kernel_rfl) rfl #[.agg #[.int .u32 a0_0, .slice A0_1 l0_1.length c0_1]] rfl (by (try simp only [List.map_toArray, List.map_cons, List.map_nil]); first | done | rfl | (simp only [List.length_drop, List.length_take]; rfl)) ?_; (with_reducible refine (tincturelaw8_great.calls k a0_0 _ _ l0_1 true _ ?side1 ?side2 A8.out).mono ?_); (case side1 => repeat (first | exact (Kd.C_below HR0_1.out HB.out) | (with_reducible refine Kd.C_alloc ?_ _) | (with_reducible refine Kd.C_drewN ?_ _) | (with_reducible refine Kd.C_drew ?_))); (case side2 => exact HC0_1.out); rintro e w11 ⟨rfl, hb⟩; refine ⟨_, rfl, ?_⟩; have n0_ := Aside0.mk (blk_below (g := gb276) (o := .cells #[.int .u32 a0_0, .slice A0_1 l0_1.length c0_1] 26 (0, 0)) (by (with_reducible repeat (first | refine blk_drewN ?_ _ | refine blk_drew ?_ | refine blk_alloc ?_ _)); exact BK276.out) hb); have n1_ := Aside0.mk (below_step (by with_reducible repeat (first | exact HB.out | apply below_alloc | apply pw_below_drewN | apply below_drew1 | refine below_set ?_ GE276.out)) hb); clear BK276; clear HB; have BK276 := n0_; have HB := n1_; clear n0_ n1_; (try clear hb); (try clear hb2); (try clear hk); (try clear hi)))
      go_meet
      case rel => exact ⟨_, (true), (by first | rfl | (simp; done) | (simp [*]; done)), H', ⟨by first | omega | exact Nat.le_refl _⟩, ⟨by (with_reducible repeat (first | refine blk_drewN ?_ _ | refine blk_drew ?_ | refine blk_alloc ?_ _)); exact BK276.out⟩, ⟨by with_reducible repeat (first | exact HB.out | apply below_alloc | apply pw_below_drewN | apply below_drew1 | refine below_set ?_ GE276.out)⟩⟩
    replace c9 := Bool.eq_false_iff.mpr c9
    subst c9
    have H1 : (if (l0_1.length : Int) = 1 then (tincturelaw8_ImageMoved.j0 k l1 (decide ((l1.length : Int) > 300)) a0_0 l0_1) else (tincturelaw8_ImageMoved.j0 k l1 true a0_0 l0_1)) = some r := by rw [if_neg (show ¬ (false = true) by decide)] at H; exact H
    clear H
    have H := H1
    clear H1
    by_cases c12 : (l0_1.length : Int) = 1
    rotate_left
    · rw [if_neg c12] at H
      have c12b0 : ((l0_1.length : Int) == 1) = false := beq_eq_false_iff_ne.mpr c12
      have c12b1 : ((l0_1.length : Int) != 1) = true := bne_iff_ne.mpr c12
      (first | rw [c12b0] | (simp only [i64_w, i32_w]; rw [c12b0]) | skip)
      have H' := Aside0.mk H
      clear H
      have hcz16_0 : w7.cell? ⟨gb276, 0, none⟩ = some (.int .u32 a0_0) := (blk_cell BK276.out 0).trans rfl
      have hcz16_1 : w7.cell? ⟨gb276, 1, none⟩ = some (.slice A0_1 l0_1.length c0_1) := (blk_cell BK276.out 1).trans rfl
      have hfz16_0 := blk_frozen BK276.out 0
      have hfz16_1 := blk_frozen BK276.out 1
      go_wp2_with (first | ((with_reducible refine gate_callee (f := 13) rfl ?_); refine goesL_ (some 15) rfl rfl Try.func13 (by kernel_rfl) rfl #[.agg #[.int .u32 a0_0, .slice A0_1 l0_1.length c0_1]] rfl (by (try simp only [List.map_toArray, List.map_cons, List.map_nil]); first | done | rfl | (simp only [List.length_drop, List.length_take]; rfl)) ?_; (with_reducible refine (tincturelaw8_great.calls k a0_0 _ _ l0_1 false _ ?side1 ?side2 A8.out).mono ?_); (case side1 => repeat (first | exact (Kd.C_below HR0_1.out HB.out) | (with_reducible refine Kd.C_alloc ?_ _) | (with_reducible refine Kd.C_drewN ?_ _) | (with_reducible refine Kd.C_drew ?_))); (case side2 => exact HC0_1.out); rintro e w17 ⟨rfl, hb⟩; refine ⟨_, rfl, ?_⟩; have n0_ := Aside0.mk (blk_below (g := gb276) (o := .cells #[.int .u32 a0_0, .slice A0_1 l0_1.length c0_1] 26 (0, 0)) (by (with_reducible repeat (first | refine blk_drewN ?_ _ | refine blk_drew ?_ | refine blk_alloc ?_ _)); exact BK276.out) hb); have n1_ := Aside0.mk (below_step (by with_reducible repeat (first | exact HB.out | apply below_alloc | apply pw_below_drewN | apply below_drew1 | refine below_set ?_ GE276.out)) hb); clear BK276; clear HB; have BK276 := n0_; have HB := n1_; clear n0_ n1_; (try clear hb); (try clear hb2); (try clear hk); (try clear hi); have hcz18_0 : w17.cell? ⟨gb276, 0, none⟩ = some (.int .u32 a0_0) := (blk_cell BK276.out 0).trans rfl; have hcz18_1 : w17.cell? ⟨gb276, 1, none⟩ = some (.slice A0_1 l0_1.length c0_1) := (blk_cell BK276.out 1).trans rfl; have hfz18_0 := blk_frozen BK276.out 0; have hfz18_1 := blk_frozen BK276.out 1))
      go_meet
      case rel => exact ⟨_, (true), (by first | rfl | (simp; done) | (simp [*]; done)), H', ⟨by first | omega | exact Nat.le_refl _⟩, ⟨by (with_reducible repeat (first | refine blk_drewN ?_ _ | refine blk_drew ?_ | refine blk_alloc ?_ _)); exact BK276.out⟩, ⟨by with_reducible repeat (first | exact HB.out | apply below_alloc | apply pw_below_drewN | apply below_drew1 | refine below_set ?_ GE276.out)⟩⟩
    rw [if_pos c12] at H
    have c12b0 : ((l0_1.length : Int) == 1) = true := beq_iff_eq.mpr c12
    have c12b1 : ((l0_1.length : Int) != 1) = false := bne_eq_false_iff_eq.mpr c12
    clear c12
    (first | rw [c12b0] | (simp only [i64_w, i32_w]; rw [c12b0]) | skip)
    have H' := Aside0.mk H
    clear H
    have hcz13_0 : w7.cell? ⟨gb276, 0, none⟩ = some (.int .u32 a0_0) := (blk_cell BK276.out 0).trans rfl
    have hcz13_1 : w7.cell? ⟨gb276, 1, none⟩ = some (.slice A0_1 l0_1.length c0_1) := (blk_cell BK276.out 1).trans rfl
    have hfz13_0 := blk_frozen BK276.out 0
    have hfz13_1 := blk_frozen BK276.out 1
    go_wp2_with (first | ((with_reducible refine gate_callee (f := 13) rfl ?_); refine goesL_ (some 15) rfl rfl Try.func13 (by kernel_rfl) rfl #[.agg #[.int .u32 a0_0, .slice A0_1 l0_1.length c0_1]] rfl (by (try simp only [List.map_toArray, List.map_cons, List.map_nil]); first | done | rfl | (simp only [List.length_drop, List.length_take]; rfl)) ?_; (with_reducible refine (tincturelaw8_great.calls k a0_0 _ _ l0_1 false _ ?side1 ?side2 A8.out).mono ?_); (case side1 => repeat (first | exact (Kd.C_below HR0_1.out HB.out) | (with_reducible refine Kd.C_alloc ?_ _) | (with_reducible refine Kd.C_drewN ?_ _) | (with_reducible refine Kd.C_drew ?_))); (case side2 => exact HC0_1.out); rintro e w14 ⟨rfl, hb⟩; refine ⟨_, rfl, ?_⟩; have n0_ := Aside0.mk (blk_below (g := gb276) (o := .cells #[.int .u32 a0_0, .slice A0_1 l0_1.length c0_1] 26 (0, 0)) (by (with_reducible repeat (first | refine blk_drewN ?_ _ | refine blk_drew ?_ | refine blk_alloc ?_ _)); exact BK276.out) hb); have n1_ := Aside0.mk (below_step (by with_reducible repeat (first | exact HB.out | apply below_alloc | apply pw_below_drewN | apply below_drew1 | refine below_set ?_ GE276.out)) hb); clear BK276; clear HB; have BK276 := n0_; have HB := n1_; clear n0_ n1_; (try clear hb); (try clear hb2); (try clear hk); (try clear hi); have hcz15_0 : w14.cell? ⟨gb276, 0, none⟩ = some (.int .u32 a0_0) := (blk_cell BK276.out 0).trans rfl; have hcz15_1 : w14.cell? ⟨gb276, 1, none⟩ = some (.slice A0_1 l0_1.length c0_1) := (blk_cell BK276.out 1).trans rfl; have hfz15_0 := blk_frozen BK276.out 0; have hfz15_1 := blk_frozen BK276.out 1))
    go_meet
    case rel => exact ⟨_, (decide ((l1.length : Int) > 300)), (by first | rfl | (simp; done) | (simp [*]; done)), H', ⟨by first | omega | exact Nat.le_refl _⟩, ⟨by (with_reducible repeat (first | refine blk_drewN ?_ _ | refine blk_drew ?_ | refine blk_alloc ?_ _)); exact BK276.out⟩, ⟨by with_reducible repeat (first | exact HB.out | apply below_alloc | apply pw_below_drewN | apply below_drew1 | refine below_set ?_ GE276.out)⟩⟩
  case rest =>
    clear HC5
    try clear c1
    try clear p2
    try clear c4
    try clear c6
    try clear c8
    try clear c9
    try clear c12
    try clear c12b0
    try clear c12b1
    try clear c13
    try clear hcz10_0
    try clear hcz10_1
    try clear hcz13_0
    try clear hcz13_1
    try clear hcz15_0
    try clear hcz15_1
    try clear hcz16_0
    try clear hcz16_1
    try clear hcz18_0
    try clear hcz18_1
    try clear hfz10_0
    try clear hfz10_1
    try clear hfz13_0
    try clear hfz13_1
    try clear hfz15_0
    try clear hfz15_1
    try clear hfz16_0
    try clear hfz16_1
    try clear hfz18_0
    try clear hfz18_1
    obtain ⟨kq, x26_4, rfl, HA, HJ4, BK276, HB⟩ := hcut
    cases kq with
    | zero => exact absurd HA.out (by simp [tincturelaw8_ImageMoved.j0])
    | succ kj4 =>
      have H := HA.out
      clear HA
      simp only [tincturelaw8_ImageMoved.j0] at H
      by_cases c19 : x26_4 = true
      · subst c19
        have H1 : (some true) = some r := by rw [if_pos rfl] at H; exact H
        clear H
        have H := H1
        clear H1
        obtain rfl := Option.some.inj H
        go_wp2
        go_ret
        exact ⟨by first | rfl | (simp [errW_none, errW_some] <;> rfl) | (simp [*, errW_none, errW_some] <;> rfl), by with_reducible repeat (first | exact HB.out | apply below_alloc | apply pw_below_drewN | apply below_drew1 | refine below_set ?_ GE276.out)⟩
      replace c19 := Bool.eq_false_iff.mpr c19
      subst c19
      have H1 : ((image_Put.f kj4 a0_0 l0_1).bind fun bt279 => (if bt279.2 = 0 then (if 0 < (l0_1.length : Int) then ((some (([] : List Int) : List Int)).bind fun y284 => (if 84 ≤ (bt279.1.length : Int) then ((some (bt279.1.take 84 : List Int)).bind fun y287 => (if y284.length + y287.length < 140737488355328 then ((some (y284 ++ y287 : List Int)).bind fun y292 => (if y292.length + l1.length < 140737488355328 then ((some (y292 ++ l1 : List Int)).bind fun y295 => (if y295.length + ((rd_T30 l0_1 0).f3).length < 140737488355328 then ((some (y295 ++ ((rd_T30 l0_1 0).f3) : List Int)).bind fun y299 => (if 56 < (y299.length : Int) then (if 57 < (y299.length : Int) then ((image_Get.f kj4 ((y299.set (56 : Int).toNat ((wrap64 (84 + (l1.length : Int))) % 256)).set (57 : Int).toNat (((wrap64 (84 + (l1.length : Int))) / 256) % 256))).bind fun bt304 => (if (y299.length : Int) > 65536 then (some true) else (if bt304.2.2 = 0 then ((tincturelaw8_img.f kj4 bt304.1 bt304.2.1).bind fun bt310 => ((tincturelaw8_img.f kj4 a0_0 l0_1).bind fun bt314 => ((tincturelaw8_sameImage.f kj4 bt310.1 bt310.2 bt314.1 bt314.2).bind fun t318 => (if t318 = true then (if 0 < (bt304.2.1.length : Int) then (some ((((rd_T30 bt304.2.1 0).f3).length : Int) == (((rd_T30 l0_1 0).f3).length : Int))) else (none)) else (some false))))) else (some false)))) else (none)) else (none))) else (none))) else (none))) else (none))) else (none))) else (none)) else (some true))) = some r := by rw [if_neg (show ¬ (false = true) by decide)] at H; exact H
      clear H
      have H := H1
      clear H1
      replace H := Option.bind_eq_some_iff.mp H
      obtain ⟨⟨t279, t282⟩, A200, H⟩ := H
      replace H : (if t282 = 0 then (if 0 < (l0_1.length : Int) then ((some (([] : List Int) : List Int)).bind fun y284 => (if 84 ≤ (t279.length : Int) then ((some (t279.take 84 : List Int)).bind fun y287 => (if y284.length + y287.length < 140737488355328 then ((some (y284 ++ y287 : List Int)).bind fun y292 => (if y292.length + l1.length < 140737488355328 then ((some (y292 ++ l1 : List Int)).bind fun y295 => (if y295.length + ((rd_T30 l0_1 0).f3).length < 140737488355328 then ((some (y295 ++ ((rd_T30 l0_1 0).f3) : List Int)).bind fun y299 => (if 56 < (y299.length : Int) then (if 57 < (y299.length : Int) then ((image_Get.f kj4 ((y299.set (56 : Int).toNat ((wrap64 (84 + (l1.length : Int))) % 256)).set (57 : Int).toNat (((wrap64 (84 + (l1.length : Int))) / 256) % 256))).bind fun bt304 => (if (y299.length : Int) > 65536 then (some true) else (if bt304.2.2 = 0 then ((tincturelaw8_img.f kj4 bt304.1 bt304.2.1).bind fun bt310 => ((tincturelaw8_img.f kj4 a0_0 l0_1).bind fun bt314 => ((tincturelaw8_sameImage.f kj4 bt310.1 bt310.2 bt314.1 bt314.2).bind fun t318 => (if t318 = true then (if 0 < (bt304.2.1.length : Int) then (some ((((rd_T30 bt304.2.1 0).f3).length : Int) == (((rd_T30 l0_1 0).f3).length : Int))) else (none)) else (some false))))) else (some false)))) else (none)) else (none))) else (none))) else (none))) else (none))) else (none))) else (none)) else (some true)) = some r := H
      have A20 := Aside0.mk A200
      clear A200
      by_cases c21 : t282 = 0
      rotate_left
      · rw [if_neg c21] at H
        have c21b0 : (t282 == 0) = false := beq_eq_false_iff_ne.mpr c21
        have c21b1 : (t282 != 0) = true := bne_iff_ne.mpr c21
        obtain rfl := Option.some.inj H
        have hcz137_0 : wc.cell? ⟨gb276, 0, none⟩ = some (.int .u32 a0_0) := (blk_cell BK276.out 0).trans rfl
        have hcz137_1 : wc.cell? ⟨gb276, 1, none⟩ = some (.slice A0_1 l0_1.length c0_1) := (blk_cell BK276.out 1).trans rfl
        have hfz137_0 := blk_frozen BK276.out 0
        have hfz137_1 := blk_frozen BK276.out 1
        go_wp2_with (first | ((with_reducible refine gate_callee (f := 11) rfl ?_); refine goesL_ (some 29) rfl rfl Try.func11 (by kernel_rfl) rfl #[.agg #[.int .u32 a0_0, .slice A0_1 l0_1.length c0_1]] rfl (by (try simp only [List.map_toArray, List.map_cons, List.map_nil]); first | done | rfl | (simp only [List.length_drop, List.length_take]; rfl)) ?_; (with_reducible refine (image_Put.calls kj4 a0_0 _ _ l0_1 t279 t282 _ ?side1 ?side2 A20.out).mono ?_); (case side1 => repeat (first | exact (Kd.C_below HR0_1.out HB.out) | (with_reducible refine Kd.C_alloc ?_ _) | (with_reducible refine Kd.C_drewN ?_ _) | (with_reducible refine Kd.C_drew ?_))); (case side2 => exact HC0_1.out); rintro e w138 ⟨v280, rfl, ho0, hb⟩; refine ⟨_, rfl, ?_⟩; have n0_ := Aside0.mk (Kd.R_lower ho0 (below_size (by with_reducible repeat (first | exact HB.out | apply below_alloc | apply pw_below_drewN | apply below_drew1 | refine below_set ?_ GE276.out)))); have n1_ := Aside0.mk (blk_below (g := gb276) (o := .cells #[.int .u32 a0_0, .slice A0_1 l0_1.length c0_1] 26 (0, 0)) (by (with_reducible repeat (first | refine blk_drewN ?_ _ | refine blk_drew ?_ | refine blk_alloc ?_ _)); exact BK276.out) hb); have n2_ := Aside0.mk (below_step (by with_reducible repeat (first | exact HB.out | apply below_alloc | apply pw_below_drewN | apply below_drew1 | refine below_set ?_ GE276.out)) hb); clear BK276; clear HB; have HO281 := n0_; have BK276 := n1_; have HB := n2_; clear n0_ n1_ n2_; (try clear hb); (try clear hb2); (try clear hk); (try clear hi); (try clear ho0)))
        go_ret
        exact ⟨by first | rfl | (simp [errW_none, errW_some] <;> rfl) | (simp [*, errW_none, errW_some] <;> rfl), by with_reducible repeat (first | exact HB.out | apply below_alloc | apply pw_below_drewN | apply below_drew1 | refine below_set ?_ GE276.out)⟩
      rw [if_pos c21] at H
      have c21b0 : (t282 == 0) = true := beq_iff_eq.mpr c21
      have c21b1 : (t282 != 0) = false := bne_eq_false_iff_eq.mpr c21
      clear c21
      by_cases c22 : 0 < (l0_1.length : Int)
      rotate_left
      · rw [if_neg c22] at H
        exact absurd H (by simp)
      rw [if_pos c22] at H
      have c22b0 : decide (0 < (l0_1.length : Int)) = true := decide_eq_true c22
      have c22b1 : decide (0 < l0_1.length) = true := decide_eq_true (by omega)
      clear c22
      obtain ⟨y284, hy284⟩ : ∃ y_ : List Int, y_ = (([] : List Int)) := ⟨_, rfl⟩
      replace H : (if 84 ≤ (t279.length : Int) then ((some (t279.take 84 : List Int)).bind fun y287 => (if y284.length + y287.length < 140737488355328 then ((some (y284 ++ y287 : List Int)).bind fun y292 => (if y292.length + l1.length < 140737488355328 then ((some (y292 ++ l1 : List Int)).bind fun y295 => (if y295.length + ((rd_T30 l0_1 0).f3).length < 140737488355328 then ((some (y295 ++ ((rd_T30 l0_1 0).f3) : List Int)).bind fun y299 => (if 56 < (y299.length : Int) then (if 57 < (y299.length : Int) then ((image_Get.f kj4 ((y299.set (56 : Int).toNat ((wrap64 (84 + (l1.length : Int))) % 256)).set (57 : Int).toNat (((wrap64 (84 + (l1.length : Int))) / 256) % 256))).bind fun bt304 => (if (y299.length : Int) > 65536 then (some true) else (if bt304.2.2 = 0 then ((tincturelaw8_img.f kj4 bt304.1 bt304.2.1).bind fun bt310 => ((tincturelaw8_img.f kj4 a0_0 l0_1).bind fun bt314 => ((tincturelaw8_sameImage.f kj4 bt310.1 bt310.2 bt314.1 bt314.2).bind fun t318 => (if t318 = true then (if 0 < (bt304.2.1.length : Int) then (some ((((rd_T30 bt304.2.1 0).f3).length : Int) == (((rd_T30 l0_1 0).f3).length : Int))) else (none)) else (some false))))) else (some false)))) else (none)) else (none))) else (none))) else (none))) else (none))) else (none)) = some r := by first | (rw [hy284]; with_reducible exact H) | (have H2_ := (Option.bind_some _ _).symm.trans H; rw [hy284]; with_reducible exact H2_) | (have H2_ := (Option.bind_some _ _).symm.trans H; with_reducible exact H2_) | with_reducible exact H | (rw [hy284]; exact H) | exact H
      have Ny284 := Aside0.mk hy284
      clear hy284
      by_cases c23 : 84 ≤ (t279.length : Int)
      rotate_left
      · rw [if_neg c23] at H
        exact absurd H (by simp)
      rw [if_pos c23] at H
      have c23b0 := eq_true c23
      have c23b1 : decide (84 ≤ (t279.length : Int)) = true := decide_eq_true c23
      clear c23
      obtain ⟨y287, hy287⟩ : ∃ y_ : List Int, y_ = (t279.take 84) := ⟨_, rfl⟩
      replace H : (if y284.length + y287.length < 140737488355328 then ((some (y284 ++ y287 : List Int)).bind fun y292 => (if y292.length + l1.length < 140737488355328 then ((some (y292 ++ l1 : List Int)).bind fun y295 => (if y295.length + ((rd_T30 l0_1 0).f3).length < 140737488355328 then ((some (y295 ++ ((rd_T30 l0_1 0).f3) : List Int)).bind fun y299 => (if 56 < (y299.length : Int) then (if 57 < (y299.length : Int) then ((image_Get.f kj4 ((y299.set (56 : Int).toNat ((wrap64 (84 + (l1.length : Int))) % 256)).set (57 : Int).toNat (((wrap64 (84 + (l1.length : Int))) / 256) % 256))).bind fun bt304 => (if (y299.length : Int) > 65536 then (some true) else (if bt304.2.2 = 0 then ((tincturelaw8_img.f kj4 bt304.1 bt304.2.1).bind fun bt310 => ((tincturelaw8_img.f kj4 a0_0 l0_1).bind fun bt314 => ((tincturelaw8_sameImage.f kj4 bt310.1 bt310.2 bt314.1 bt314.2).bind fun t318 => (if t318 = true then (if 0 < (bt304.2.1.length : Int) then (some ((((rd_T30 bt304.2.1 0).f3).length : Int) == (((rd_T30 l0_1 0).f3).length : Int))) else (none)) else (some false))))) else (some false)))) else (none)) else (none))) else (none))) else (none))) else (none)) = some r := by first | (rw [hy287]; with_reducible exact H) | (have H2_ := (Option.bind_some _ _).symm.trans H; rw [hy287]; with_reducible exact H2_) | (have H2_ := (Option.bind_some _ _).symm.trans H; with_reducible exact H2_) | with_reducible exact H | (rw [hy287]; exact H) | exact H
      have Ny287 := Aside0.mk hy287
      clear hy287
      by_cases c24 : y284.length + y287.length < 140737488355328
      rotate_left
      · rw [if_neg c24] at H
        exact absurd H (by simp)
      rw [if_pos c24] at H
      have LMc24 := Aside0.mk c24
      clear c24
      obtain ⟨y292, hy292⟩ : ∃ y_ : List Int, y_ = (y284 ++ y287) := ⟨_, rfl⟩
      replace H : (if y292.length + l1.length < 140737488355328 then ((some (y292 ++ l1 : List Int)).bind fun y295 => (if y295.length + ((rd_T30 l0_1 0).f3).length < 140737488355328 then ((some (y295 ++ ((rd_T30 l0_1 0).f3) : List Int)).bind fun y299 => (if 56 < (y299.length : Int) then (if 57 < (y299.length : Int) then ((image_Get.f kj4 ((y299.set (56 : Int).toNat ((wrap64 (84 + (l1.length : Int))) % 256)).set (57 : Int).toNat (((wrap64 (84 + (l1.length : Int))) / 256) % 256))).bind fun bt304 => (if (y299.length : Int) > 65536 then (some true) else (if bt304.2.2 = 0 then ((tincturelaw8_img.f kj4 bt304.1 bt304.2.1).bind fun bt310 => ((tincturelaw8_img.f kj4 a0_0 l0_1).bind fun bt314 => ((tincturelaw8_sameImage.f kj4 bt310.1 bt310.2 bt314.1 bt314.2).bind fun t318 => (if t318 = true then (if 0 < (bt304.2.1.length : Int) then (some ((((rd_T30 bt304.2.1 0).f3).length : Int) == (((rd_T30 l0_1 0).f3).length : Int))) else (none)) else (some false))))) else (some false)))) else (none)) else (none))) else (none))) else (none)) = some r := by first | (rw [hy292]; with_reducible exact H) | (have H2_ := (Option.bind_some _ _).symm.trans H; rw [hy292]; with_reducible exact H2_) | (have H2_ := (Option.bind_some _ _).symm.trans H; with_reducible exact H2_) | with_reducible exact H | (rw [hy292]; exact H) | exact H
      have Ny292 := Aside0.mk hy292
      clear hy292
      by_cases c25 : y292.length + l1.length < 140737488355328
      rotate_left
      · rw [if_neg c25] at H
        exact absurd H (by simp)
      rw [if_pos c25] at H
      have LMc25 := Aside0.mk c25
      clear c25
      obtain ⟨y295, hy295⟩ : ∃ y_ : List Int, y_ = (y292 ++ l1) := ⟨_, rfl⟩
      replace H : (if y295.length + ((rd_T30 l0_1 0).f3).length < 140737488355328 then ((some (y295 ++ ((rd_T30 l0_1 0).f3) : List Int)).bind fun y299 => (if 56 < (y299.length : Int) then (if 57 < (y299.length : Int) then ((image_Get.f kj4 ((y299.set (56 : Int).toNat ((wrap64 (84 + (l1.length : Int))) % 256)).set (57 : Int).toNat (((wrap64 (84 + (l1.length : Int))) / 256) % 256))).bind fun bt304 => (if (y299.length : Int) > 65536 then (some true) else (if bt304.2.2 = 0 then ((tincturelaw8_img.f kj4 bt304.1 bt304.2.1).bind fun bt310 => ((tincturelaw8_img.f kj4 a0_0 l0_1).bind fun bt314 => ((tincturelaw8_sameImage.f kj4 bt310.1 bt310.2 bt314.1 bt314.2).bind fun t318 => (if t318 = true then (if 0 < (bt304.2.1.length : Int) then (some ((((rd_T30 bt304.2.1 0).f3).length : Int) == (((rd_T30 l0_1 0).f3).length : Int))) else (none)) else (some false))))) else (some false)))) else (none)) else (none))) else (none)) = some r := by first | (rw [hy295]; with_reducible exact H) | (have H2_ := (Option.bind_some _ _).symm.trans H; rw [hy295]; with_reducible exact H2_) | (have H2_ := (Option.bind_some _ _).symm.trans H; with_reducible exact H2_) | with_reducible exact H | (rw [hy295]; exact H) | exact H
      have Ny295 := Aside0.mk hy295
      clear hy295
      by_cases c26 : y295.length + ((rd_T30 l0_1 0).f3).length < 140737488355328
      rotate_left
      · rw [if_neg c26] at H
        exact absurd H (by simp)
      rw [if_pos c26] at H
      have LMc26 := Aside0.mk c26
      clear c26
      obtain ⟨y299, hy299⟩ : ∃ y_ : List Int, y_ = (y295 ++ ((rd_T30 l0_1 0).f3)) := ⟨_, rfl⟩
      replace H : (if 56 < (y299.length : Int) then (if 57 < (y299.length : Int) then ((image_Get.f kj4 ((y299.set (56 : Int).toNat ((wrap64 (84 + (l1.length : Int))) % 256)).set (57 : Int).toNat (((wrap64 (84 + (l1.length : Int))) / 256) % 256))).bind fun bt304 => (if (y299.length : Int) > 65536 then (some true) else (if bt304.2.2 = 0 then ((tincturelaw8_img.f kj4 bt304.1 bt304.2.1).bind fun bt310 => ((tincturelaw8_img.f kj4 a0_0 l0_1).bind fun bt314 => ((tincturelaw8_sameImage.f kj4 bt310.1 bt310.2 bt314.1 bt314.2).bind fun t318 => (if t318 = true then (if 0 < (bt304.2.1.length : Int) then (some ((((rd_T30 bt304.2.1 0).f3).length : Int) == (((rd_T30 l0_1 0).f3).length : Int))) else (none)) else (some false))))) else (some false)))) else (none)) else (none)) = some r := by first | (rw [hy299]; with_reducible exact H) | (have H2_ := (Option.bind_some _ _).symm.trans H; rw [hy299]; with_reducible exact H2_) | (have H2_ := (Option.bind_some _ _).symm.trans H; with_reducible exact H2_) | with_reducible exact H | (rw [hy299]; exact H) | exact H
      have Ny299 := Aside0.mk hy299
      clear hy299
      by_cases c27 : 56 < (y299.length : Int)
      rotate_left
      · rw [if_neg c27] at H
        exact absurd H (by simp)
      rw [if_pos c27] at H
      have c27b0 : decide (56 < (y299.length : Int)) = true := decide_eq_true c27
      have c27b1 : decide (56 < y299.length) = true := decide_eq_true (by omega)
      clear c27
      obtain ⟨y302, hy302⟩ : ∃ y_ : List Int, y_ = (y299.set (56 : Int).toNat ((wrap64 (84 + (l1.length : Int))) % 256)) := ⟨_, rfl⟩
      replace H : (if 57 < (y299.length : Int) then ((image_Get.f kj4 (y302.set (57 : Int).toNat (((wrap64 (84 + (l1.length : Int))) / 256) % 256))).bind fun bt304 => (if (y299.length : Int) > 65536 then (some true) else (if bt304.2.2 = 0 then ((tincturelaw8_img.f kj4 bt304.1 bt304.2.1).bind fun bt310 => ((tincturelaw8_img.f kj4 a0_0 l0_1).bind fun bt314 => ((tincturelaw8_sameImage.f kj4 bt310.1 bt310.2 bt314.1 bt314.2).bind fun t318 => (if t318 = true then (if 0 < (bt304.2.1.length : Int) then (some ((((rd_T30 bt304.2.1 0).f3).length : Int) == (((rd_T30 l0_1 0).f3).length : Int))) else (none)) else (some false))))) else (some false)))) else (none)) = some r := by first | (rw [hy302]; with_reducible exact H) | (have H2_ := (Option.bind_some _ _).symm.trans H; rw [hy302]; with_reducible exact H2_) | (have H2_ := (Option.bind_some _ _).symm.trans H; with_reducible exact H2_) | with_reducible exact H | (rw [hy302]; exact H) | exact H
      have Ny302 := Aside0.mk hy302
      clear hy302
      by_cases c29 : 57 < (y299.length : Int)
      rotate_left
      · rw [if_neg c29] at H
        exact absurd H (by simp)
      rw [if_pos c29] at H
      have c29b0 : decide (57 < (y299.length : Int)) = true := decide_eq_true c29
      have c29b1 : decide (57 < y299.length) = true := decide_eq_true (by omega)
      clear c29
      obtain ⟨y303, hy303⟩ : ∃ y_ : List Int, y_ = (y302.set (57 : Int).toNat (((wrap64 (84 + (l1.length : Int))) / 256) % 256)) := ⟨_, rfl⟩
      replace H : ((image_Get.f kj4 y303).bind fun bt304 => (if (y299.length : Int) > 65536 then (some true) else (if bt304.2.2 = 0 then ((tincturelaw8_img.f kj4 bt304.1 bt304.2.1).bind fun bt310 => ((tincturelaw8_img.f kj4 a0_0 l0_1).bind fun bt314 => ((tincturelaw8_sameImage.f kj4 bt310.1 bt310.2 bt314.1 bt314.2).bind fun t318 => (if t318 = true then (if 0 < (bt304.2.1.length : Int) then (some ((((rd_T30 bt304.2.1 0).f3).length : Int) == (((rd_T30 l0_1 0).f3).length : Int))) else (none)) else (some false))))) else (some false)))) = some r := by first | (rw [hy303]; with_reducible exact H) | (have H2_ := (Option.bind_some _ _).symm.trans H; rw [hy303]; with_reducible exact H2_) | (have H2_ := (Option.bind_some _ _).symm.trans H; with_reducible exact H2_) | with_reducible exact H | (rw [hy303]; exact H) | exact H
      have Ny303 := Aside0.mk hy303
      clear hy303
      replace H := Option.bind_eq_some_iff.mp H
      obtain ⟨⟨t304, t305, t308⟩, A310, H⟩ := H
      replace H : (if (y299.length : Int) > 65536 then (some true) else (if t308 = 0 then ((tincturelaw8_img.f kj4 t304 t305).bind fun bt310 => ((tincturelaw8_img.f kj4 a0_0 l0_1).bind fun bt314 => ((tincturelaw8_sameImage.f kj4 bt310.1 bt310.2 bt314.1 bt314.2).bind fun t318 => (if t318 = true then (if 0 < (t305.length : Int) then (some ((((rd_T30 t305 0).f3).length : Int) == (((rd_T30 l0_1 0).f3).length : Int))) else (none)) else (some false))))) else (some false))) = some r := H
      have A31 := Aside0.mk A310
      clear A310
      by_cases c32 : (y299.length : Int) > 65536
      · rw [if_pos c32] at H
        have c32b0 : decide (65536 < (y299.length : Int)) = true := decide_eq_true c32
        have c32b1 : decide (65536 < y299.length) = true := decide_eq_true (by omega)
        clear c32
        obtain rfl := Option.some.inj H
        have hcz33_0 : wc.cell? ⟨gb276, 0, none⟩ = some (.int .u32 a0_0) := (blk_cell BK276.out 0).trans rfl
        have hcz33_1 : wc.cell? ⟨gb276, 1, none⟩ = some (.slice A0_1 l0_1.length c0_1) := (blk_cell BK276.out 1).trans rfl
        have hfz33_0 := blk_frozen BK276.out 0
        have hfz33_1 := blk_frozen BK276.out 1
        try go_wp2_with (first | ((with_reducible refine gate_callee (f := 11) rfl ?_); refine goesL_ (some 29) rfl rfl Try.func11 (by kernel_rfl) rfl #[.agg #[.int .u32 a0_0, .slice A0_1 l0_1.length c0_1]] rfl (by (try simp only [List.map_toArray, List.map_cons, List.map_nil]); first | done | rfl | (simp only [List.length_drop, List.length_take]; rfl)) ?_; (with_reducible refine (image_Put.calls kj4 a0_0 _ _ l0_1 t279 t282 _ ?side1 ?side2 A20.out).mono ?_); (case side1 => repeat (first | exact (Kd.C_below HR0_1.out HB.out) | (with_reducible refine Kd.C_alloc ?_ _) | (with_reducible refine Kd.C_drewN ?_ _) | (with_reducible refine Kd.C_drew ?_))); (case side2 => exact HC0_1.out); rintro e w34 ⟨v280, rfl, ho0, hb⟩; refine ⟨_, rfl, ?_⟩; have n0_ := Aside0.mk (Kd.R_lower ho0 (below_size (by with_reducible repeat (first | exact HB.out | apply below_alloc | apply pw_below_drewN | apply below_drew1 | refine below_set ?_ GE276.out)))); have n1_ := Aside0.mk (blk_below (g := gb276) (o := .cells #[.int .u32 a0_0, .slice A0_1 l0_1.length c0_1] 26 (0, 0)) (by (with_reducible repeat (first | refine blk_drewN ?_ _ | refine blk_drew ?_ | refine blk_alloc ?_ _)); exact BK276.out) hb); have n2_ := Aside0.mk (below_step (by with_reducible repeat (first | exact HB.out | apply below_alloc | apply pw_below_drewN | apply below_drew1 | refine below_set ?_ GE276.out)) hb); clear BK276; clear HB; have HO281 := n0_; have BK276 := n1_; have HB := n2_; clear n0_ n1_ n2_; (try clear hb); (try clear hb2); (try clear hk); (try clear hi); (try clear ho0); have hcz35_0 : w34.cell? ⟨gb276, 0, none⟩ = some (.int .u32 a0_0) := (blk_cell BK276.out 0).trans rfl; have hcz35_1 : w34.cell? ⟨gb276, 1, none⟩ = some (.slice A0_1 l0_1.length c0_1) := (blk_cell BK276.out 1).trans rfl; have hfz35_0 := blk_frozen BK276.out 0; have hfz35_1 := blk_frozen BK276.out 1; have p283 : 0 ≤ (0 : Int) := (by omega); have q283 : 0 < (l0_1.length : Int) := of_decide_eq_true (by assumption); obtain ⟨ad283, A283_3, c283_3, e283, hx283_0, hx283_1, hx283_2, hx283_3, hl283_3, hi283_3⟩ := at_T30 HR0_1.out 0 p283 q283; cases e283; have qi283 : (0 < l0_1.length) = True := eq_true (by omega); (try rw [show ((0 : Int)).toNat = 0 from rfl] at hx283_0); (try rw [show 0 * 4 = 0 from rfl] at hx283_0); (try rw [Addr.add_zero'] at hx283_0); (try rw [show ((0 : Int)).toNat = 0 from rfl] at hx283_1); (try rw [show 0 * 4 = 0 from rfl] at hx283_1); (try rw [Addr.add_zero'] at hx283_1); (try rw [show ((0 : Int)).toNat = 0 from rfl] at hx283_2); (try rw [show 0 * 4 = 0 from rfl] at hx283_2); (try rw [Addr.add_zero'] at hx283_2); (try rw [show ((0 : Int)).toNat = 0 from rfl] at hx283_3); (try rw [show 0 * 4 = 0 from rfl] at hx283_3); (try rw [Addr.add_zero'] at hx283_3); replace hx283_0 := (HB.out.cell (World.block_lt_of_cell? w _ hx283_0)).trans hx283_0; replace hx283_1 := (HB.out.cell (World.block_lt_of_cell? w _ hx283_1)).trans hx283_1; replace hx283_2 := (HB.out.cell (World.block_lt_of_cell? w _ hx283_2)).trans hx283_2; replace hx283_3 := (HB.out.cell (World.block_lt_of_cell? w _ hx283_3)).trans hx283_3; have HR283_3 := Aside0.mk hi283_3; have HC283_3 := Aside0.mk hl283_3; clear hi283_3 hl283_3; replace p283 := eq_true p283; replace q283 := eq_true q283))
        have n0_ := Aside0.mk (Kd.R_drew HO281.out)
        have n1_ := Aside0.mk (blk_drew BK276.out)
        have n2_ := Aside0.mk (below_drew1 HB.out)
        clear HO281 BK276 HB
        have HO281 := n0_
        have BK276 := n1_
        have HB := n2_
        clear n0_ n1_ n2_
        obtain ⟨Ao38, co38, eo38⟩ := Kd.R_slice HO281.out
        (first | subst eo38 | (injection eo38 with f1_ f2_ f3_; have f4_ := f1_.symm; have f5_ := f3_.symm; clear f1_ f2_ f3_; subst f4_; subst f5_))
        have q37 : (84 : Int) ≤ ((t279.length : Int) : Int) := of_decide_eq_true (by assumption)
        obtain ⟨i037, hi037, _, hsz37, _⟩ := info_parts info5
        have hroom37 : t279.length ≤ co38 := (Kd.R_reads' HO281.out).2.1
        have hC37 : Kd.F (Kd.int .u8) _ _ Ao38 t279.length t279 := (Kd.V_at (base := w.heap.size) (Kd.R_V (Kd.R_types (HO281.out) BK276.out (by decide)))).2.2
        have hcut37 := cut_to (P := Try.prog) 28 5 .i64 Try.underlying28 hi037 Ao38 t279.length co38 84 (by omega) q37 hroom37
        have hr37 := Kd.F_take (m := 84) hC37 (by omega)
        have hy37 : y287.length = (84 : Int).toNat := (by rw [Ny287.out, List.length_take]; omega)
        rw [← Ny287.out] at hr37
        rw [← hy37] at hcut37
        have HO291 := Aside0.mk (show Kd.V (Kd.int .u8) 5 _ w.heap.size _ (.slice Ao38 y287.length co38) y287 from Kd.V_mk (by omega) hr37)
        have HC291 := Aside0.mk (show y287.length ≤ co38 from by omega)
        clear hr37 hC37 hroom37 hi037 hsz37
        have KY37 := Aside0.mk hy37
        clear hy37
        replace q37 := eq_true q37
        have p298 : 0 ≤ (0 : Int) := (by omega)
        have q298 : 0 < (l0_1.length : Int) := of_decide_eq_true (by assumption)
        obtain ⟨ad298, A298_3, c298_3, e298, hx298_0, hx298_1, hx298_2, hx298_3, hl298_3, hi298_3⟩ := at_T30 HR0_1.out 0 p298 q298
        have hw298_3 := hx298_3
        (try rw [show ((0 : Int)).toNat = 0 from rfl] at hw298_3)
        (try rw [show 0 * 4 = 0 from rfl] at hw298_3)
        (try rw [Addr.add_zero'] at hw298_3)
        have hw298_2 := hx298_2
        (try rw [show ((0 : Int)).toNat = 0 from rfl] at hw298_2)
        (try rw [show 0 * 4 = 0 from rfl] at hw298_2)
        (try rw [Addr.add_zero'] at hw298_2)
        have hw298_1 := hx298_1
        (try rw [show ((0 : Int)).toNat = 0 from rfl] at hw298_1)
        (try rw [show 0 * 4 = 0 from rfl] at hw298_1)
        (try rw [Addr.add_zero'] at hw298_1)
        have hw298_0 := hx298_0
        (try rw [show ((0 : Int)).toNat = 0 from rfl] at hw298_0)
        (try rw [show 0 * 4 = 0 from rfl] at hw298_0)
        (try rw [Addr.add_zero'] at hw298_0)
        obtain rfl : ad283 = ad298 := (by injection e298)
        have qi298 : (0 < l0_1.length) = True := eq_true (by omega)
        (try rw [show ((0 : Int)).toNat = 0 from rfl] at hx298_0)
        (try rw [show 0 * 4 = 0 from rfl] at hx298_0)
        (try rw [Addr.add_zero'] at hx298_0)
        (try rw [show ((0 : Int)).toNat = 0 from rfl] at hx298_1)
        (try rw [show 0 * 4 = 0 from rfl] at hx298_1)
        (try rw [Addr.add_zero'] at hx298_1)
        (try rw [show ((0 : Int)).toNat = 0 from rfl] at hx298_2)
        (try rw [show 0 * 4 = 0 from rfl] at hx298_2)
        (try rw [Addr.add_zero'] at hx298_2)
        (try rw [show ((0 : Int)).toNat = 0 from rfl] at hx298_3)
        (try rw [show 0 * 4 = 0 from rfl] at hx298_3)
        (try rw [Addr.add_zero'] at hx298_3)
        replace hx298_0 := (HB.out.cell (World.block_lt_of_cell? w _ hx298_0)).trans hx298_0
        replace hx298_1 := (HB.out.cell (World.block_lt_of_cell? w _ hx298_1)).trans hx298_1
        replace hx298_2 := (HB.out.cell (World.block_lt_of_cell? w _ hx298_2)).trans hx298_2
        replace hx298_3 := (HB.out.cell (World.block_lt_of_cell? w _ hx298_3)).trans hx298_3
        have HR298_3 := Aside0.mk hi298_3
        have HC298_3 := Aside0.mk hl298_3
        clear hi298_3 hl298_3
        replace p298 := eq_true p298
        replace q298 := eq_true q298
        refine start_ (n := 13) (S := fun w' => w'.cell? ⟨gb276, 0, none⟩ = some (.int .u32 a0_0) ∧ w'.cell? ⟨gb276, 1, none⟩ = some (.slice (some ad283) l0_1.length c0_1) ∧ w'.cell? ad283 = some (.int .u32 ((rd_T30 l0_1 0).f0)) ∧ w'.cell? ⟨ad283.block, ad283.off + 1, none⟩ = some (.int .u32 ((rd_T30 l0_1 0).f1)) ∧ w'.cell? ⟨ad283.block, ad283.off + 2, none⟩ = some (.int .i64 ((rd_T30 l0_1 0).f2)) ∧ w'.cell? ⟨ad283.block, ad283.off + 3, none⟩ = some (.slice A298_3 ((rd_T30 l0_1 0).f3).length c298_3)) (ds := []) #[ff, ff, ff, ff, ff, ff, ff, ff, ff, ff, ff, ff, ff] (by kernel_rfl) rfl rfl ⟨(blk_cell BK276.out 0).trans rfl, (blk_cell BK276.out 1).trans rfl, ((HB.out.cell (World.block_lt_of_cell? w _ hw298_0)).trans hw298_0), ((HB.out.cell (World.block_lt_of_cell? w _ hw298_1)).trans hw298_1), ((HB.out.cell (World.block_lt_of_cell? w _ hw298_2)).trans hw298_2), ((HB.out.cell (World.block_lt_of_cell? w _ hw298_3)).trans hw298_3)⟩ (fun hHeld => ?_); refine with_tabW tincturelaw8_ImageMoved.tab9 tincturelaw8_ImageMoved.bits9 (fun HT_ HW_ => ?_)
        generalize w34.drew = w36 at HO281 BK276 HB HO291 HR298_3 hx298_0 hx298_1 hx298_2 hx298_3 hHeld ⊢
        refine pure_ (i := 1) (N := some 41) (v := ?_) (a' := ?_) #[ff, tt, ff, ff, ff, ff, ff, ff, ff, ff, ff, ff, ff] rfl rfl (any_of HT_.out (by kernel_rfl)) (fun _ _ _ h => h) (Or.inl ⟨by rfl, ?_⟩) ?_ ?_
        rotate_left
        · intro w'
          go_simp
          with_reducible rfl
        rotate_left
        · simp only [Act.put, List.setIfInBounds_toArray, List.set_cons_zero, List.set_cons_succ, i64_w, i32_w]
          rfl
        refine pure_ (i := 2) (N := some 42) (v := ?_) (a' := ?_) #[ff, tt, tt, ff, ff, ff, ff, ff, ff, ff, ff, ff, ff] rfl rfl (any_of HT_.out (by kernel_rfl)) (fun _ _ _ h => h) (Or.inl ⟨by rfl, ?_⟩) ?_ ?_
        rotate_left
        · intro w'
          go_simp
          with_reducible rfl
        rotate_left
        · simp only [Act.put, List.setIfInBounds_toArray, List.set_cons_zero, List.set_cons_succ, i64_w, i32_w]
          rfl
        refine pure_ (i := 4) (N := some 44) (v := ?_) (a' := ?_) #[ff, tt, tt, ff, tt, ff, ff, ff, ff, ff, ff, ff, ff] rfl rfl (any_of HT_.out (by kernel_rfl)) (fun _ _ _ h => h) (Or.inl ⟨by rfl, ?_⟩) ?_ ?_
        rotate_left
        · intro w'
          go_simp
          with_reducible rfl
        rotate_left
        · simp only [Act.put, List.setIfInBounds_toArray, List.set_cons_zero, List.set_cons_succ, i64_w, i32_w]
          rfl
        refine pure_ (i := 6) (N := some 46) (v := ?_) (a' := ?_) #[ff, tt, tt, ff, tt, ff, tt, ff, ff, ff, ff, ff, ff] rfl rfl (any_of HT_.out (by kernel_rfl)) (fun _ _ _ h => h) (Or.inl ⟨by rfl, ?_⟩) ?_ ?_
        rotate_left
        · intro w'
          go_simp
          with_reducible rfl
        rotate_left
        · simp only [Act.put, List.setIfInBounds_toArray, List.set_cons_zero, List.set_cons_succ, i64_w, i32_w]
          rfl
        refine take_ (i := 7) (N := some 47) (v := ?_) (a' := ?_) #[ff, tt, tt, ff, tt, ff, tt, tt, ff, ff, ff, ff, ff] rfl rfl (take_ofW HT_.out HW_.out (by kernel_rfl)) (fun _ _ _ h => h) (Or.inl ⟨by rfl, ?_⟩) hHeld ?_ ?_
        rotate_left
        · rintro w' ⟨s0, s1, s2, s3, s4, s5⟩
          go_simp
          with_reducible rfl
        rotate_left
        · simp only [Act.put, List.setIfInBounds_toArray, List.set_cons_zero, List.set_cons_succ, i64_w, i32_w]
          rfl
        refine pure_ (i := 8) (N := some 48) (v := ?_) (a' := ?_) #[ff, tt, tt, ff, tt, ff, tt, tt, tt, ff, ff, ff, ff] rfl rfl (any_of HT_.out (by kernel_rfl)) (fun _ _ _ h => h) (Or.inl ⟨by rfl, ?_⟩) ?_ ?_
        rotate_left
        · intro w'
          go_simp
          with_reducible rfl
        rotate_left
        · simp only [Act.put, List.setIfInBounds_toArray, List.set_cons_zero, List.set_cons_succ, i64_w, i32_w]
          rfl
        refine pure_ (i := 9) (N := some 49) (v := ?_) (a' := ?_) #[ff, tt, tt, ff, tt, ff, tt, tt, tt, tt, ff, ff, ff] rfl rfl (any_of HT_.out (by kernel_rfl)) (fun _ _ _ h => h) (Or.inl ⟨by rfl, ?_⟩) ?_ ?_
        rotate_left
        · intro w'
          go_simp
          with_reducible rfl
        rotate_left
        · simp only [Act.put, List.setIfInBounds_toArray, List.set_cons_zero, List.set_cons_succ, i64_w, i32_w]
          rfl
        refine take_ (i := 10) (N := some 50) (v := ?_) (a' := ?_) #[ff, tt, tt, ff, tt, ff, tt, tt, tt, tt, tt, ff, ff] rfl rfl (take_ofW HT_.out HW_.out (by kernel_rfl)) (fun _ _ _ h => h) (Or.inl ⟨by rfl, ?_⟩) hHeld ?_ ?_
        rotate_left
        · rintro w' ⟨s0, s1, s2, s3, s4, s5⟩
          go_simp
          with_reducible rfl
        rotate_left
        · simp only [Act.put, List.setIfInBounds_toArray, List.set_cons_zero, List.set_cons_succ, i64_w, i32_w]
          rfl
        refine one_ (i := 0) (N := some 40) #[tt, tt, tt, ff, tt, ff, tt, tt, tt, tt, tt, ff, ff] rfl rfl (one_of HT_.out (by kernel_rfl)) (by decide) (fun K hK => ?_)
        refine Kd.R_lit_step (Kd.int .u8) _ 5 ?hg (N := 40) ?hd (xs := ([] : List Int)) (inner := []) (ok := fun _ => True) (okp := fun _ => True) ?hr ?hp (fun _ hk => hk) trivial (Below.refl _ _) (Nat.le_refl _) (by simp) ?_; (case hd => rfl); (case hg => rfl); (case hr => first | (go_simp; done) | (go_simp; rfl)); (case hp => exact (Reps.none _ _))
        intro v285 w39 ho40 hb hg_ hnew_
        clear hg_ hnew_
        (first | rw [← Ny284.out] at ho40 | (simp only [Int.reduceToNat] at ho40; rw [← Ny284.out] at ho40))
        have n0_ := Aside0.mk (Kd.R_elder' (by (with_reducible repeat (first | apply Kd.R_alloc | apply Kd.R_drewN | apply Kd.R_drew)); exact HO281.out) (Kd.R_base ho40) hb)
        have n1_ := Aside0.mk (Kd.V_elder' (by (with_reducible repeat (first | apply Kd.V_alloc | apply Kd.V_drewN | apply Kd.V_drew)); exact HO291.out) (Kd.R_base ho40) hb)
        have n2_ := Aside0.mk (Kd.R_lower (Kd.R_new' ho40 (Kd.R_lt (by (with_reducible repeat (first | apply Kd.R_alloc | apply Kd.R_drewN | apply Kd.R_drew)); exact HO281.out))) (below_size (by with_reducible repeat (first | exact HB.out | apply below_alloc | apply pw_below_drewN | apply below_drew1 | refine below_set ?_ GE276.out))))
        have n3_ := Aside0.mk (blk_below (g := gb276) (o := .cells #[.int .u32 a0_0, .slice (some ad283) l0_1.length c0_1] 26 (0, 0)) (by (with_reducible repeat (first | refine blk_drewN ?_ _ | refine blk_drew ?_ | refine blk_alloc ?_ _)); exact BK276.out) hb)
        have n4_ := Aside0.mk (below_step (by with_reducible repeat (first | exact HB.out | apply below_alloc | apply pw_below_drewN | apply below_drew1 | refine below_set ?_ GE276.out)) hb)
        clear HO281 HO291 BK276 HB
        have HO281 := n0_
        have HO291 := n1_
        have HO286 := n2_
        have BK276 := n3_
        have HB := n4_
        clear n0_ n1_ n2_ n3_ n4_ hb ho40
        refine hK.out _ _ ⟨(blk_cell BK276.out 0).trans rfl, (blk_cell BK276.out 1).trans rfl, ((HB.out.cell (World.block_lt_of_cell? w _ hw298_0)).trans hw298_0), ((HB.out.cell (World.block_lt_of_cell? w _ hw298_1)).trans hw298_1), ((HB.out.cell (World.block_lt_of_cell? w _ hw298_2)).trans hw298_2), ((HB.out.cell (World.block_lt_of_cell? w _ hw298_3)).trans hw298_3)⟩ (fun hHeld => ?_)
        clear hK K
        refine norm_ (a' := ?_) ?_ ?_
        rotate_left
        · show Act.put _ (some 40) _ = _
          simp only [Act.put, List.setIfInBounds_toArray, List.set_cons_zero, List.set_cons_succ, i64_w, i32_w]
          rfl
        refine one_ (i := 3) (N := some 43) #[tt, tt, tt, tt, tt, ff, tt, tt, tt, tt, tt, ff, ff] rfl rfl (one_of HT_.out (by kernel_rfl)) (by decide) (fun K hK => ?_)
        refine Kd.R_append_rows_step (Kd.int .u8) (w0 := w) w.heap.size (by rfl) (.tmp 40) (.tmp 42) 28 5 (.int .u8 0) 1 rfl Try.underlying28 info5 rfl (by decide) (by omega) v285 y284 y287 _ _ _ (fun k_ => some k_ ≠ (.slice Ao38 t279.length co38 : Value).ownBlock) (fun _ => False) rfl rfl ?aO ?aR (fun _ _ h => h) (fun _ h => h.elim) ?aF ?aB ?aS ?aL ?_
        (case aR => repeat (first | exact (Kd.V_reads' HO291.out).2.2 | (with_reducible refine Kd.C_alloc ?_ _) | (with_reducible refine Kd.C_drewN ?_ _) | (with_reducible refine Kd.C_drew ?_)))
        (case aB => exact (by with_reducible repeat (first | exact HB.out | apply below_alloc | apply pw_below_drewN | apply below_drew1 | refine below_set ?_ GE276.out)))
        (case aF => exact (fun k_ hk => Kd.fresh' (Kd.R_lt (by (with_reducible repeat (first | apply Kd.R_alloc | apply Kd.R_drewN | apply Kd.R_drew)); exact HO281.out)) k_ hk))
        (case aO => exact (by (with_reducible repeat (first | apply Kd.R_alloc | apply Kd.R_drewN | apply Kd.R_drew)); exact Kd.R_mono HO286.out (fun _ hk => hk.2)))
        (case aS => exact (below_size (by with_reducible repeat (first | exact HB.out | apply below_alloc | apply pw_below_drewN | apply below_drew1 | refine below_set ?_ GE276.out))))
        (case aL => have := LMc24.out; omega)
        intro v293 w41 ho hb hg hat
        rw [← Ny292.out] at ho
        have n0_ := Aside0.mk (blk_grown (g := gb276) (o := .cells #[.int .u32 a0_0, .slice (some ad283) l0_1.length c0_1] 26 (0, 0)) (by (with_reducible repeat (first | refine blk_drewN ?_ _ | refine blk_drew ?_ | refine blk_alloc ?_ _)); exact BK276.out) hg (Kd.R_ne HO286.out BK276.out (by decide)))
        have n1_ := Aside0.mk (Kd.R_after (ok := (fun _ => True)) (by (with_reducible repeat (first | apply Kd.R_alloc | apply Kd.R_drewN | apply Kd.R_drew)); exact HO281.out) hg hat)
        have n2_ := Aside0.mk (Kd.V_afterv (ok := (fun k_ => k_ ≠ gb276)) (by (with_reducible repeat (first | apply Kd.V_alloc | apply Kd.V_drewN | apply Kd.V_drew)); exact Kd.V_mono HO291.out (fun _ hk => ⟨hk.1.2, hk.2⟩)) hg hat)
        have n3_ := Aside0.mk (hb)
        have n4_ := Aside0.mk (ho)
        clear BK276 HO281 HO291 HB HO286
        have BK276 := n0_
        have HO281 := n1_
        have HO291 := n2_
        have HB := n3_
        have HO294 := n4_
        clear n0_ n1_ n2_ n3_ n4_ ho hb hg hat
        refine hK.out _ _ ⟨(blk_cell BK276.out 0).trans rfl, (blk_cell BK276.out 1).trans rfl, ((HB.out.cell (World.block_lt_of_cell? w _ hw298_0)).trans hw298_0), ((HB.out.cell (World.block_lt_of_cell? w _ hw298_1)).trans hw298_1), ((HB.out.cell (World.block_lt_of_cell? w _ hw298_2)).trans hw298_2), ((HB.out.cell (World.block_lt_of_cell? w _ hw298_3)).trans hw298_3)⟩ (fun hHeld => ?_)
        clear hK K
        refine norm_ (a' := ?_) ?_ ?_
        rotate_left
        · show Act.put _ (some 43) _ = _
          simp only [Act.put, List.setIfInBounds_toArray, List.set_cons_zero, List.set_cons_succ, i64_w, i32_w]
          rfl
        refine one_ (i := 5) (N := some 45) #[tt, tt, tt, tt, tt, tt, tt, tt, tt, tt, tt, ff, ff] rfl rfl (one_of HT_.out (by kernel_rfl)) (by decide) (fun K hK => ?_)
        refine Kd.R_append_rows_step (Kd.int .u8) (w0 := w) w.heap.size (by rfl) (.tmp 43) (.tmp 44) 28 5 (.int .u8 0) 1 rfl Try.underlying28 info5 rfl (by decide) (by omega) v293 y292 l1 _ _ _ (fun k_ => some k_ ≠ (.slice Ao38 t279.length co38 : Value).ownBlock) (fun _ => False) rfl rfl ?aO ?aR (fun _ _ h => h) (fun _ h => h.elim) ?aF ?aB ?aS ?aL ?_
        (case aR => repeat (first | exact (Kd.C_below HR1.out HB.out) | (with_reducible refine Kd.C_alloc ?_ _) | (with_reducible refine Kd.C_drewN ?_ _) | (with_reducible refine Kd.C_drew ?_)))
        (case aB => exact (by with_reducible repeat (first | exact HB.out | apply below_alloc | apply pw_below_drewN | apply below_drew1 | refine below_set ?_ GE276.out)))
        (case aF => exact (fun k_ hk => Kd.fresh' (Kd.R_lt (by (with_reducible repeat (first | apply Kd.R_alloc | apply Kd.R_drewN | apply Kd.R_drew)); exact HO281.out)) k_ hk))
        (case aO => exact (by (with_reducible repeat (first | apply Kd.R_alloc | apply Kd.R_drewN | apply Kd.R_drew)); exact HO294.out))
        (case aS => exact (below_size (by with_reducible repeat (first | exact HB.out | apply below_alloc | apply pw_below_drewN | apply below_drew1 | refine below_set ?_ GE276.out))))
        (case aL => have := LMc25.out; omega)
        intro v296 w42 ho hb hg hat
        rw [← Ny295.out] at ho
        have n0_ := Aside0.mk (blk_grown (g := gb276) (o := .cells #[.int .u32 a0_0, .slice (some ad283) l0_1.length c0_1] 26 (0, 0)) (by (with_reducible repeat (first | refine blk_drewN ?_ _ | refine blk_drew ?_ | refine blk_alloc ?_ _)); exact BK276.out) hg (Kd.R_ne HO294.out BK276.out (by decide)))
        have n1_ := Aside0.mk (Kd.R_after (ok := (fun _ => True)) (by (with_reducible repeat (first | apply Kd.R_alloc | apply Kd.R_drewN | apply Kd.R_drew)); exact HO281.out) hg hat)
        have n2_ := Aside0.mk (Kd.V_afterv (ok := (fun k_ => k_ ≠ gb276)) (by (with_reducible repeat (first | apply Kd.V_alloc | apply Kd.V_drewN | apply Kd.V_drew)); exact HO291.out) hg hat)
        have n3_ := Aside0.mk (hb)
        have n4_ := Aside0.mk (ho)
        clear BK276 HO281 HO291 HB HO294
        have BK276 := n0_
        have HO281 := n1_
        have HO291 := n2_
        have HB := n3_
        have HO297 := n4_
        clear n0_ n1_ n2_ n3_ n4_ ho hb hg hat
        refine hK.out _ _ ⟨(blk_cell BK276.out 0).trans rfl, (blk_cell BK276.out 1).trans rfl, ((HB.out.cell (World.block_lt_of_cell? w _ hw298_0)).trans hw298_0), ((HB.out.cell (World.block_lt_of_cell? w _ hw298_1)).trans hw298_1), ((HB.out.cell (World.block_lt_of_cell? w _ hw298_2)).trans hw298_2), ((HB.out.cell (World.block_lt_of_cell? w _ hw298_3)).trans hw298_3)⟩ (fun hHeld => ?_)
        clear hK K
        refine norm_ (a' := ?_) ?_ ?_
        rotate_left
        · show Act.put _ (some 45) _ = _
          simp only [Act.put, List.setIfInBounds_toArray, List.set_cons_zero, List.set_cons_succ, i64_w, i32_w]
          rfl
        refine one_ (i := 11) (N := some 51) #[tt, tt, tt, tt, tt, tt, tt, tt, tt, tt, tt, tt, ff] rfl rfl (one_of HT_.out (by kernel_rfl)) (by decide) (fun K hK => ?_)
        refine Kd.R_append_rows_step (Kd.int .u8) (w0 := w) w.heap.size (by rfl) (.tmp 45) (.tmp 50) 28 5 (.int .u8 0) 1 rfl Try.underlying28 info5 rfl (by decide) (by omega) v296 y295 ((rd_T30 l0_1 0).f3) _ _ _ (fun k_ => some k_ ≠ (.slice Ao38 t279.length co38 : Value).ownBlock) (fun _ => False) rfl rfl ?aO ?aR (fun _ _ h => h) (fun _ h => h.elim) ?aF ?aB ?aS ?aL ?_
        (case aR => repeat (first | exact (Kd.C_below HR298_3.out HB.out) | (with_reducible refine Kd.C_alloc ?_ _) | (with_reducible refine Kd.C_drewN ?_ _) | (with_reducible refine Kd.C_drew ?_)))
        (case aB => exact (by with_reducible repeat (first | exact HB.out | apply below_alloc | apply pw_below_drewN | apply below_drew1 | refine below_set ?_ GE276.out)))
        (case aF => exact (fun k_ hk => Kd.fresh' (Kd.R_lt (by (with_reducible repeat (first | apply Kd.R_alloc | apply Kd.R_drewN | apply Kd.R_drew)); exact HO281.out)) k_ hk))
        (case aO => exact (by (with_reducible repeat (first | apply Kd.R_alloc | apply Kd.R_drewN | apply Kd.R_drew)); exact HO297.out))
        (case aS => exact (below_size (by with_reducible repeat (first | exact HB.out | apply below_alloc | apply pw_below_drewN | apply below_drew1 | refine below_set ?_ GE276.out))))
        (case aL => have := LMc26.out; omega)
        intro v300 w43 ho hb hg hat
        rw [← Ny299.out] at ho
        have n0_ := Aside0.mk (blk_grown (g := gb276) (o := .cells #[.int .u32 a0_0, .slice (some ad283) l0_1.length c0_1] 26 (0, 0)) (by (with_reducible repeat (first | refine blk_drewN ?_ _ | refine blk_drew ?_ | refine blk_alloc ?_ _)); exact BK276.out) hg (Kd.R_ne HO297.out BK276.out (by decide)))
        have n1_ := Aside0.mk (Kd.R_after (ok := (fun _ => True)) (by (with_reducible repeat (first | apply Kd.R_alloc | apply Kd.R_drewN | apply Kd.R_drew)); exact HO281.out) hg hat)
        have n2_ := Aside0.mk (Kd.V_afterv (ok := (fun k_ => k_ ≠ gb276)) (by (with_reducible repeat (first | apply Kd.V_alloc | apply Kd.V_drewN | apply Kd.V_drew)); exact HO291.out) hg hat)
        have n3_ := Aside0.mk (hb)
        have n4_ := Aside0.mk (ho)
        clear BK276 HO281 HO291 HB HO297
        have BK276 := n0_
        have HO281 := n1_
        have HO291 := n2_
        have HB := n3_
        have HO301 := n4_
        clear n0_ n1_ n2_ n3_ n4_ ho hb hg hat
        refine hK.out _ _ ⟨(blk_cell BK276.out 0).trans rfl, (blk_cell BK276.out 1).trans rfl, ((HB.out.cell (World.block_lt_of_cell? w _ hw298_0)).trans hw298_0), ((HB.out.cell (World.block_lt_of_cell? w _ hw298_1)).trans hw298_1), ((HB.out.cell (World.block_lt_of_cell? w _ hw298_2)).trans hw298_2), ((HB.out.cell (World.block_lt_of_cell? w _ hw298_3)).trans hw298_3)⟩ (fun hHeld => ?_)
        clear hK K
        refine norm_ (a' := ?_) ?_ ?_
        rotate_left
        · show Act.put _ (some 51) _ = _
          simp only [Act.put, List.setIfInBounds_toArray, List.set_cons_zero, List.set_cons_succ, i64_w, i32_w]
          rfl
        refine pure_ (i := 12) (N := some 8) (v := ?_) (a' := ?_) #[tt, tt, tt, tt, tt, tt, tt, tt, tt, tt, tt, tt, tt] rfl rfl (any_of HT_.out (by kernel_rfl)) (fun _ _ _ h => h) (Or.inl ⟨by rfl, ?_⟩) ?_ ?_
        rotate_left
        · intro w'
          go_simp
          with_reducible rfl
        rotate_left
        · simp only [Act.put, List.setIfInBounds_toArray, List.set_cons_zero, List.set_cons_succ, i64_w, i32_w]
          rfl
        refine done_ (done_of HT_.out (by kernel_rfl)) ?_
        have p28 : 0 ≤ (56 : Int) := (by omega)
        have q28 : (56 : Int) < ((y299.length : Int) : Int) := of_decide_eq_true (by assumption)
        have qi28 : (56 < y299.length) = True := eq_true (by omega)
        obtain ⟨go28, co28, eo28, gb28, gl28, cl28, HG28⟩ := Kd.R_form HO301.out (by omega)
        (first | cases eo28 | (injection eo28 with ea_ en_ ec_; (first | subst ea_ | (injection ea_ with ea_; subst ea_)); subst ec_; clear en_))
        have GB28 := Aside0.mk gb28
        have GG28 := Aside0.mk HG28
        clear gb28 gl28 HG28
        obtain ⟨hx28_0, hf28_0⟩ := Kd.R_celln 0 HO301.out (56 : Int) p28 q28
        (try rw [show ((56 : Int)).toNat = 56 from rfl] at hx28_0)
        (try simp only [Nat.reduceMul, Nat.zero_mul, Nat.zero_add, Nat.reduceAdd] at hx28_0)
        (try rw [show ((56 : Int)).toNat = 56 from rfl] at hf28_0)
        (try simp only [Nat.reduceMul, Nat.zero_mul, Nat.zero_add, Nat.reduceAdd] at hf28_0)
        replace p28 := eq_true p28
        replace q28 := eq_true q28
        obtain ⟨hy44_, hz44_⟩ := Kd.R_celln 0 HO301.out (56 : Int) (by omega) (of_decide_eq_true (by assumption))
        (try simp only [Int.reduceToNat, Int.toNat_zero, Int.toNat_ofNat, Nat.reduceMul, Nat.zero_mul, Nat.zero_add] at hy44_ hz44_)
        (try rw [show ((56 : Int)).toNat = 56 from rfl] at hy44_)
        (try rw [show ((56 : Int)).toNat = 56 from rfl] at hz44_)
        have HP44 := Kd.R_putg HO301.out (56 : Int) ((wrap64 (84 + (l1.length : Int))) % 256)
        try go_wp2_with (first | ((with_reducible refine gate_store (t := 5) (p := 62) rfl ?_); refine store_event (t := 5) (p := 62) (v := ?vo_w45) (w1 := (w43.setCell ⟨go28, (56 : Int).toNat, none⟩ (.int .u8 ((wrap64 (84 + (l1.length : Int))) % 256)))) ?hg ?ho ?hn ?hr ?_; (case ho => rfl); (case hg => rfl); (case hn => rfl); (case hr => first | (go_simp; done) | (go_simp; rfl)); intro w45 hw; have hg : w43.grownBy w45 (some go28) := (by rw [hw]; exact HP44.2); have hp_ : Kd.R (Kd.int .u8) 5 w45 w.heap.size (fun k_ => some k_ ≠ (.slice Ao38 t279.length co38 : Value).ownBlock) (.slice (some ⟨go28, 0, none⟩) y299.length co28) y302 := (by rw [hw, Ny302.out]; exact HP44.1); clear HP44; have n0_ := Aside0.mk (blk_grown (g := gb276) (o := .cells #[.int .u32 a0_0, .slice (some ad283) l0_1.length c0_1] 26 (0, 0)) (by (with_reducible repeat (first | refine blk_drewN ?_ _ | refine blk_drew ?_ | refine blk_alloc ?_ _)); exact BK276.out) hg (Kd.R_ne HO301.out BK276.out (by decide))); have n1_ := Aside0.mk (Kd.R_after (v := (.slice (some ⟨go28, 0, none⟩) y299.length co28)) (v1 := (.slice (some ⟨go28, 0, none⟩) y299.length co28)) (ok := (fun _ => True)) (by (with_reducible repeat (first | apply Kd.R_alloc | apply Kd.R_drewN | apply Kd.R_drew)); exact HO281.out) hg (.inl rfl)); have n2_ := Aside0.mk (Kd.V_afterv (v := (.slice (some ⟨go28, 0, none⟩) y299.length co28)) (v1 := (.slice (some ⟨go28, 0, none⟩) y299.length co28)) (ok := (fun k_ => k_ ≠ gb276)) (by (with_reducible repeat (first | apply Kd.V_alloc | apply Kd.V_drewN | apply Kd.V_drew)); exact HO291.out) hg (.inl rfl)); have n3_ := Aside0.mk (hp_); have n4_ := Aside0.mk ((by rw [hw]; exact below_set (HB.out) GB28.out : Below w.heap.size w w45)); clear BK276; clear HO281; clear HO291; clear HO301; clear HB; have BK276 := n0_; have HO281 := n1_; have HO291 := n2_; have HO301 := n3_; have HB := n4_; clear n0_ n1_ n2_ n3_ n4_; clear hg hw hp_; have p30 : 0 ≤ (57 : Int) := (by omega); have q30 : (57 : Int) < ((y299.length : Int) : Int) := of_decide_eq_true (by assumption); have qi30 : (57 < y299.length) = True := eq_true (by omega); obtain ⟨hx30_0, hf30_0⟩ := Kd.R_celln 0 HO301.out (57 : Int) p30 q30; (try rw [show ((57 : Int)).toNat = 57 from rfl] at hx30_0); (try simp only [Nat.reduceMul, Nat.zero_mul, Nat.zero_add, Nat.reduceAdd] at hx30_0); (try rw [show ((57 : Int)).toNat = 57 from rfl] at hf30_0); (try simp only [Nat.reduceMul, Nat.zero_mul, Nat.zero_add, Nat.reduceAdd] at hf30_0); replace p30 := eq_true p30; replace q30 := eq_true q30; obtain ⟨hy46_, hz46_⟩ := Kd.R_celln 0 HO301.out (57 : Int) (by omega) (of_decide_eq_true (by assumption)); (try simp only [Int.reduceToNat, Int.toNat_zero, Int.toNat_ofNat, Nat.reduceMul, Nat.zero_mul, Nat.zero_add] at hy46_ hz46_); (try rw [show ((57 : Int)).toNat = 57 from rfl] at hy46_); (try rw [show ((57 : Int)).toNat = 57 from rfl] at hz46_); have HP46 := Kd.R_putg HO301.out (57 : Int) (((wrap64 (84 + (l1.length : Int))) / 256) % 256)) | ((with_reducible refine gate_store (t := 5) (p := 63) rfl ?_); refine store_event (t := 5) (p := 63) (v := ?vo_w47) (w1 := (w45.setCell ⟨go28, (57 : Int).toNat, none⟩ (.int .u8 (((wrap64 (84 + (l1.length : Int))) / 256) % 256)))) ?hg ?ho ?hn ?hr ?_; (case ho => rfl); (case hg => rfl); (case hn => rfl); (case hr => first | (go_simp; done) | (go_simp; rfl)); intro w47 hw; have hg : w45.grownBy w47 (some go28) := (by rw [hw]; exact HP46.2); have hp_ : Kd.R (Kd.int .u8) 5 w47 w.heap.size (fun k_ => some k_ ≠ (.slice Ao38 t279.length co38 : Value).ownBlock) (.slice (some ⟨go28, 0, none⟩) y299.length co28) y303 := (by rw [hw, Ny303.out]; exact HP46.1); clear HP46; have n0_ := Aside0.mk (blk_grown (g := gb276) (o := .cells #[.int .u32 a0_0, .slice (some ad283) l0_1.length c0_1] 26 (0, 0)) (by (with_reducible repeat (first | refine blk_drewN ?_ _ | refine blk_drew ?_ | refine blk_alloc ?_ _)); exact BK276.out) hg (Kd.R_ne HO301.out BK276.out (by decide))); have n1_ := Aside0.mk (Kd.R_after (v := (.slice (some ⟨go28, 0, none⟩) y299.length co28)) (v1 := (.slice (some ⟨go28, 0, none⟩) y299.length co28)) (ok := (fun _ => True)) (by (with_reducible repeat (first | apply Kd.R_alloc | apply Kd.R_drewN | apply Kd.R_drew)); exact HO281.out) hg (.inl rfl)); have n2_ := Aside0.mk (Kd.V_afterv (v := (.slice (some ⟨go28, 0, none⟩) y299.length co28)) (v1 := (.slice (some ⟨go28, 0, none⟩) y299.length co28)) (ok := (fun k_ => k_ ≠ gb276)) (by (with_reducible repeat (first | apply Kd.V_alloc | apply Kd.V_drewN | apply Kd.V_drew)); exact HO291.out) hg (.inl rfl)); have n3_ := Aside0.mk (hp_); have n4_ := Aside0.mk ((by rw [hw]; exact below_set (HB.out) GB28.out : Below w.heap.size w w47)); clear BK276; clear HO281; clear HO291; clear HO301; clear HB; have BK276 := n0_; have HO281 := n1_; have HO291 := n2_; have HO301 := n3_; have HB := n4_; clear n0_ n1_ n2_ n3_ n4_; clear hg hw hp_) | ((with_reducible refine gate_callee (f := 10) rfl ?_); refine goesL_ (some 66) rfl rfl Try.func10 (by kernel_rfl) rfl #[.slice (some ⟨go28, 0, none⟩) y303.length co28] rfl (by (try simp only [List.map_toArray, List.map_cons, List.map_nil]); first | done | (rw [show y303.length = y299.length from (Kd.R_reads' HO301.out).1.symm] <;> rfl) | rfl | (simp only [List.length_drop, List.length_take]; rfl)) ?_; (with_reducible refine (image_Get.calls kj4 _ _ y303 t304 t305 t308 _ ?side1 ?side2 A31.out).mono ?_); (case side1 => repeat (first | exact (Kd.R_reads' HO301.out).2.2 | (with_reducible refine Kd.C_alloc ?_ _) | (with_reducible refine Kd.C_drewN ?_ _) | (with_reducible refine Kd.C_drew ?_))); (case side2 => rw [show y303.length = y299.length from (Kd.R_reads' HO301.out).1.symm]; exact (Kd.R_reads' HO301.out).2.1); rintro e w48 ⟨v306, rfl, ho0, hb⟩; refine ⟨_, rfl, ?_⟩; have n0_ := Aside0.mk (Kd.R_below (by (with_reducible repeat (first | apply Kd.R_alloc | apply Kd.R_drewN | apply Kd.R_drew)); exact HO281.out) hb); have n1_ := Aside0.mk (Kd.V_elder' (by (with_reducible repeat (first | apply Kd.V_alloc | apply Kd.V_drewN | apply Kd.V_drew)); exact HO291.out) (by first | exact Kd.N_base ho0 | exact Kd.N_base (Kd.S_N (Kd.S_bound ho0))) hb); have n2_ := Aside0.mk (Kd.R_below (by (with_reducible repeat (first | apply Kd.R_alloc | apply Kd.R_drewN | apply Kd.R_drew)); exact HO301.out) hb); have n3_ := Aside0.mk (Kd.N_lower (Kd.N_mono (ok' := fun k_ => some k_ ≠ (.slice Ao38 t279.length co38 : Value).ownBlock ∧ some k_ ≠ (.slice (some ⟨go28, 0, none⟩) y299.length co28 : Value).ownBlock ∧ k_ ≠ gb276) (Kd.S_N (Kd.S_bound ho0)) (fun k_ hk_ => ⟨(Kd.fresh' (Kd.R_lt (by (with_reducible repeat (first | apply Kd.R_alloc | apply Kd.R_drewN | apply Kd.R_drew)); exact HO281.out)) k_ hk_.2.1), (Kd.fresh' (Kd.R_lt (by (with_reducible repeat (first | apply Kd.R_alloc | apply Kd.R_drewN | apply Kd.R_drew)); exact HO301.out)) k_ hk_.2.1), (Kd.freshB (g := gb276) (o := .cells #[.int .u32 a0_0, .slice (some ad283) l0_1.length c0_1] 26 (0, 0)) (by (with_reducible repeat (first | refine blk_drewN ?_ _ | refine blk_drew ?_ | refine blk_alloc ?_ _)); exact BK276.out) k_ hk_.2.1)⟩)) (below_size (by with_reducible repeat (first | exact HB.out | apply below_alloc | apply pw_below_drewN | apply below_drew1 | refine below_set ?_ GE276.out)))); have n4_ := Aside0.mk (blk_below (g := gb276) (o := .cells #[.int .u32 a0_0, .slice (some ad283) l0_1.length c0_1] 26 (0, 0)) (by (with_reducible repeat (first | refine blk_drewN ?_ _ | refine blk_drew ?_ | refine blk_alloc ?_ _)); exact BK276.out) hb); have n5_ := Aside0.mk (below_step (by with_reducible repeat (first | exact HB.out | apply below_alloc | apply pw_below_drewN | apply below_drew1 | refine below_set ?_ GE276.out)) hb); clear HO281; clear HO291; clear HO301; clear BK276; clear HB; have HO281 := n0_; have HO291 := n1_; have HO301 := n2_; have HO307 := n3_; have BK276 := n4_; have HB := n5_; clear n0_ n1_ n2_ n3_ n4_ n5_; (try clear hb); (try clear hb2); (try clear hk); (try clear hi); (try clear ho0)) | ((with_reducible refine gate_dst (N := 10) rfl ?_); (try (refine gate_guard (by rfl) ?_; dsimp only)); refine box_event ?hg (N := 10) ?hd (cs := #[.int .u32 0, .slice none 0 0]) (t := 26) ?hr ?_; (case hd => rfl); (case hg => rfl); (case hr => first | (go_simp; done) | (go_simp; rfl)); intro gb309 hg w49 hbox hb; have n0_ := Aside0.mk (Kd.R_below (by (with_reducible repeat (first | apply Kd.R_alloc | apply Kd.R_drewN | apply Kd.R_drew)); exact HO281.out) hb); have n1_ := Aside0.mk (Kd.V_below (Kd.V_elderB (by (with_reducible repeat (first | apply Kd.V_alloc | apply Kd.V_drewN | apply Kd.V_drew)); exact HO291.out) gb309 (Nat.le_of_eq hg.symm)) hb); have n2_ := Aside0.mk (Kd.R_below (by (with_reducible repeat (first | apply Kd.R_alloc | apply Kd.R_drewN | apply Kd.R_drew)); exact HO301.out) hb); have n3_ := Aside0.mk (Kd.N_below (Kd.N_elderB (by (with_reducible repeat (first | apply Kd.N_alloc | apply Kd.N_drewN | apply Kd.N_drew)); exact HO307.out) gb309 (Nat.le_of_eq hg.symm)) hb); have n4_ := Aside0.mk (blk_below (g := gb276) (o := .cells #[.int .u32 a0_0, .slice (some ad283) l0_1.length c0_1] 26 (0, 0)) (by (with_reducible repeat (first | refine blk_drewN ?_ _ | refine blk_drew ?_ | refine blk_alloc ?_ _)); exact BK276.out) hb); have n5_ := Aside0.mk (below_step (by with_reducible repeat (first | exact HB.out | apply below_alloc | apply pw_below_drewN | apply below_drew1 | refine below_set ?_ GE276.out)) hb); have n6_ := Aside0.mk (hbox); have n7_ := Aside0.mk ((by rw [hg]; exact (below_size (by with_reducible repeat (first | exact HB.out | apply below_alloc | apply pw_below_drewN | apply below_drew1 | refine below_set ?_ GE276.out))) : w.heap.size ≤ gb309)); have n8_ := Aside0.mk ((by rw [hg]; exact (below_size (by with_reducible repeat (first | exact HB.out | apply below_alloc | apply pw_below_drewN | apply below_drew1 | refine below_set ?_ GE276.out))) : w.heap.size ≤ gb309)); have n9_ := Aside0.mk ((by rw [hg]; exact Nat.ne_of_lt (blk_lt (g := gb276) (o := .cells #[.int .u32 a0_0, .slice (some ad283) l0_1.length c0_1] 26 (0, 0)) (by (with_reducible repeat (first | refine blk_drewN ?_ _ | refine blk_drew ?_ | refine blk_alloc ?_ _)); exact BK276.out)) : gb276 ≠ gb309)); have n10_ := Aside0.mk ((by rw [hg]; exact Nat.ne_of_gt (blk_lt (g := gb276) (o := .cells #[.int .u32 a0_0, .slice (some ad283) l0_1.length c0_1] 26 (0, 0)) (by (with_reducible repeat (first | refine blk_drewN ?_ _ | refine blk_drew ?_ | refine blk_alloc ?_ _)); exact BK276.out)) : gb309 ≠ gb276)); clear HO281; clear HO291; clear HO301; clear HO307; clear BK276; clear HB; have HO281 := n0_; have HO291 := n1_; have HO301 := n2_; have HO307 := n3_; have BK276 := n4_; have HB := n5_; have BK309 := n6_; have GW309 := n7_; have GE309 := n8_; have NB276_309 := n9_; have NB309_276 := n10_; clear n0_ n1_ n2_ n3_ n4_ n5_ n6_ n7_ n8_ n9_ n10_; clear hb hbox hg; have hnb50 := NB309_276.out; have hnc50 := NB276_309.out; have hcz51_0 : w49.cell? ⟨gb309, 0, none⟩ = some (.int .u32 0) := (blk_cell BK309.out 0).trans rfl; have hcz51_1 : w49.cell? ⟨gb309, 1, none⟩ = some (.slice none 0 0) := (blk_cell BK309.out 1).trans rfl; have hfz51_0 := blk_frozen BK309.out 0; have hfz51_1 := blk_frozen BK309.out 1; obtain ⟨Ao52, co52, eo52⟩ := Kd.N_slice HO307.out; subst eo52))
        have n0_ : Aside0 (Kd.R (Kd.int .u8) 5 ((w49.setCell ⟨gb309, 0, none⟩ (.int .u32 t304)).setCell ⟨gb309, 1, none⟩ (.slice Ao52 t305.length co52)) w.heap.size (fun k_ => some k_ ≠ (.slice (some ⟨go28, 0, none⟩) y299.length co28 : Value).ownBlock) (.slice Ao38 t279.length co38) t279) := ⟨by (with_reducible repeat (first | apply Kd.R_alloc | apply Kd.R_drewN | apply Kd.R_drew)); exact Kd.R_mono (Kd.R_far (p := ⟨gb309, 1, none⟩) (Kd.R_far (p := ⟨gb309, 0, none⟩) (Kd.R_types HO281.out BK309.out (by decide)) (fun _ hk => hk.2) (.int .u32 t304)) (fun _ hk => hk.2) (.slice Ao52 t305.length co52)) (fun _ hk => hk.1.2)⟩
        have n1_ : Aside0 (Kd.V (Kd.int .u8) 5 ((w49.setCell ⟨gb309, 0, none⟩ (.int .u32 t304)).setCell ⟨gb309, 1, none⟩ (.slice Ao52 t305.length co52)) w.heap.size (fun k_ => some k_ ≠ (.slice (some ⟨go28, 0, none⟩) y299.length co28 : Value).ownBlock ∧ some k_ ≠ (.slice Ao52 t305.length co52 : Value).ownBlock ∧ k_ ≠ gb276 ∧ k_ ≠ gb309) (.slice Ao38 y287.length co38) y287) := ⟨by (with_reducible repeat (first | apply Kd.V_alloc | apply Kd.V_drewN | apply Kd.V_drew)); exact Kd.V_mono (Kd.V_far (p := ⟨gb309, 1, none⟩) (Kd.V_far (p := ⟨gb309, 0, none⟩) (Kd.V_mono HO291.out (fun k_ hk => (⟨hk, hk.2⟩ : _ ∧ k_ ≠ gb309))) (fun _ hk => hk.2) (.int .u32 t304)) (fun _ hk => hk.2) (.slice Ao52 t305.length co52)) (fun _ hk => ⟨hk.1.1.1.2, ⟨hk.1.1.2, ⟨hk.1.1.1.1, hk.1.2⟩⟩⟩)⟩
        have n2_ : Aside0 (Kd.R (Kd.int .u8) 5 ((w49.setCell ⟨gb309, 0, none⟩ (.int .u32 t304)).setCell ⟨gb309, 1, none⟩ (.slice Ao52 t305.length co52)) w.heap.size (fun k_ => some k_ ≠ (.slice Ao38 t279.length co38 : Value).ownBlock) (.slice (some ⟨go28, 0, none⟩) y299.length co28) y303) := ⟨by (with_reducible repeat (first | apply Kd.R_alloc | apply Kd.R_drewN | apply Kd.R_drew)); exact Kd.R_mono (Kd.R_far (p := ⟨gb309, 1, none⟩) (Kd.R_far (p := ⟨gb309, 0, none⟩) (Kd.R_types HO301.out BK309.out (by decide)) (fun _ hk => hk.2) (.int .u32 t304)) (fun _ hk => hk.2) (.slice Ao52 t305.length co52)) (fun _ hk => hk.1)⟩
        have n3_ : Aside0 (Kd.N k30 30 ((w49.setCell ⟨gb309, 0, none⟩ (.int .u32 t304)).setCell ⟨gb309, 1, none⟩ (.slice Ao52 t305.length co52)) w.heap.size (fun k_ => some k_ ≠ (.slice Ao38 t279.length co38 : Value).ownBlock ∧ some k_ ≠ (.slice (some ⟨go28, 0, none⟩) y299.length co28 : Value).ownBlock ∧ k_ ≠ gb276 ∧ k_ ≠ gb309) (.slice Ao52 t305.length co52) t305) := ⟨by (with_reducible repeat (first | apply Kd.N_alloc | apply Kd.N_drewN | apply Kd.N_drew)); exact Kd.N_mono (Kd.N_far (p := ⟨gb309, 1, none⟩) (Kd.N_far (p := ⟨gb309, 0, none⟩) (Kd.N_mono HO307.out (fun k_ hk => (⟨hk, hk.2⟩ : _ ∧ k_ ≠ gb309))) (fun _ hk => hk.2) (.int .u32 t304)) (fun _ hk => hk.2) (.slice Ao52 t305.length co52)) (fun _ hk => ⟨hk.1.1.1, ⟨hk.1.1.2.1, ⟨hk.1.1.2.2, hk.1.2⟩⟩⟩)⟩
        have n4_ : Aside0 (((w49.setCell ⟨gb309, 0, none⟩ (.int .u32 t304)).setCell ⟨gb309, 1, none⟩ (.slice Ao52 t305.length co52)).heap[gb276]? = some (.cells #[.int .u32 a0_0, .slice (some ad283) l0_1.length c0_1] 26 (0, 0))) := ⟨by (with_reducible repeat (first | refine blk_drewN ?_ _ | refine blk_drew ?_ | refine blk_alloc ?_ _)); refine blk_far ?_ NB276_309.out _; (with_reducible repeat (first | refine blk_drewN ?_ _ | refine blk_drew ?_ | refine blk_alloc ?_ _)); refine blk_far ?_ NB276_309.out _; (with_reducible repeat (first | refine blk_drewN ?_ _ | refine blk_drew ?_ | refine blk_alloc ?_ _)); exact BK276.out⟩
        have n5_ : Aside0 (((w49.setCell ⟨gb309, 0, none⟩ (.int .u32 t304)).setCell ⟨gb309, 1, none⟩ (.slice Ao52 t305.length co52)).heap[gb309]? = some (.cells #[.int .u32 t304, .slice Ao52 t305.length co52] 26 (0, 0))) := ⟨by (with_reducible repeat (first | refine blk_drewN ?_ _ | refine blk_drew ?_ | refine blk_alloc ?_ _)); refine blk_put (cs := #[.int .u32 t304, .slice none 0 0]) ?_ 1 _ rfl; (with_reducible repeat (first | refine blk_drewN ?_ _ | refine blk_drew ?_ | refine blk_alloc ?_ _)); refine blk_put (cs := #[.int .u32 0, .slice none 0 0]) ?_ 0 _ rfl; (with_reducible repeat (first | refine blk_drewN ?_ _ | refine blk_drew ?_ | refine blk_alloc ?_ _)); exact BK309.out⟩
        have n6_ : Aside0 (Below w.heap.size w ((w49.setCell ⟨gb309, 0, none⟩ (.int .u32 t304)).setCell ⟨gb309, 1, none⟩ (.slice Ao52 t305.length co52))) := ⟨by with_reducible repeat (first | exact HB.out | apply below_alloc | apply pw_below_drewN | apply below_drew1 | refine below_set ?_ GE276.out | refine below_set ?_ GE309.out)⟩
        (try clear HO281); (try clear HO291); (try clear HO301); (try clear HO307); (try clear BK276); (try clear BK309); (try clear HB)
        generalize ((w49.setCell ⟨gb309, 0, none⟩ (.int .u32 t304)).setCell ⟨gb309, 1, none⟩ (.slice Ao52 t305.length co52)) = w53 at n0_ n1_ n2_ n3_ n4_ n5_ n6_ ⊢
        have HO281 := n0_
        have HO291 := n1_
        have HO301 := n2_
        have HO307 := n3_
        have BK276 := n4_
        have BK309 := n5_
        have HB := n6_
        clear n0_ n1_ n2_ n3_ n4_ n5_ n6_
        have n0_ := Aside0.mk (Kd.R_drew HO281.out)
        have n1_ := Aside0.mk (Kd.V_drew HO291.out)
        have n2_ := Aside0.mk (Kd.R_drew HO301.out)
        have n3_ := Aside0.mk (Kd.N_drew HO307.out)
        have n4_ := Aside0.mk (blk_drew BK276.out)
        have n5_ := Aside0.mk (blk_drew BK309.out)
        have n6_ := Aside0.mk (below_drew1 HB.out)
        clear HO281 HO291 HO301 HO307 BK276 BK309 HB
        have HO281 := n0_
        have HO291 := n1_
        have HO301 := n2_
        have HO307 := n3_
        have BK276 := n4_
        have BK309 := n5_
        have HB := n6_
        clear n0_ n1_ n2_ n3_ n4_ n5_ n6_
        refine start_ (n := 25) (S := fun w' => True) (ds := []) #[ff, ff, ff, ff, ff, ff, ff, ff, ff, ff, ff, ff, ff, ff, ff, ff, ff, ff, ff, ff, ff, ff, ff, ff, ff] (by kernel_rfl) rfl rfl trivial (fun hHeld => ?_); refine with_tabW tincturelaw8_ImageMoved.tab13 tincturelaw8_ImageMoved.bits13 (fun HT_ HW_ => ?_)
        generalize w53.drew = w54 at HO281 HO291 HO301 HO307 BK276 BK309 HB hHeld ⊢
        refine pure_ (i := 0) (N := some 69) (v := ?_) (a' := ?_) #[tt, ff, ff, ff, ff, ff, ff, ff, ff, ff, ff, ff, ff, ff, ff, ff, ff, ff, ff, ff, ff, ff, ff, ff, ff] rfl rfl (any_of HT_.out (by kernel_rfl)) (fun _ _ _ h => h) (Or.inl ⟨by rfl, ?_⟩) ?_ ?_
        rotate_left
        · intro w'
          go_simp
          with_reducible rfl
        rotate_left
        · simp only [Act.put, List.setIfInBounds_toArray, List.set_cons_zero, List.set_cons_succ, i64_w, i32_w]
          rfl
        refine pure_ (i := 1) (N := some 70) (v := ?_) (a' := ?_) #[tt, tt, ff, ff, ff, ff, ff, ff, ff, ff, ff, ff, ff, ff, ff, ff, ff, ff, ff, ff, ff, ff, ff, ff, ff] rfl rfl (any_of HT_.out (by kernel_rfl)) (fun _ _ _ h => h) (Or.inl ⟨by rfl, ?_⟩) ?_ ?_
        rotate_left
        · intro w'
          go_simp
          with_reducible rfl
        rotate_left
        · simp only [Act.put, List.setIfInBounds_toArray, List.set_cons_zero, List.set_cons_succ, i64_w, i32_w]
          rfl
        refine pure_ (i := 2) (N := some 71) (v := ?_) (a' := ?_) #[tt, tt, tt, ff, ff, ff, ff, ff, ff, ff, ff, ff, ff, ff, ff, ff, ff, ff, ff, ff, ff, ff, ff, ff, ff] rfl rfl (any_of HT_.out (by kernel_rfl)) (fun _ _ _ h => h) (Or.inl ⟨by rfl, ?_⟩) ?_ ?_
        rotate_left
        · intro w'
          go_simp
          with_reducible rfl
        rotate_left
        · simp only [Act.put, List.setIfInBounds_toArray, List.set_cons_zero, List.set_cons_succ, i64_w, i32_w]
          rfl
        refine pure_ (i := 3) (N := some 72) (v := ?_) (a' := ?_) #[tt, tt, tt, tt, ff, ff, ff, ff, ff, ff, ff, ff, ff, ff, ff, ff, ff, ff, ff, ff, ff, ff, ff, ff, ff] rfl rfl (any_of HT_.out (by kernel_rfl)) (fun _ _ _ h => h) (Or.inl ⟨by rfl, ?_⟩) ?_ ?_
        rotate_left
        · intro w'
          go_simp
          with_reducible rfl
        rotate_left
        · simp only [Act.put, List.setIfInBounds_toArray, List.set_cons_zero, List.set_cons_succ, i64_w, i32_w]
          rfl
        refine pure_ (i := 4) (N := some 73) (v := undef) (a' := ?_) #[tt, tt, tt, tt, tt, ff, ff, ff, ff, ff, ff, ff, ff, ff, ff, ff, ff, ff, ff, ff, ff, ff, ff, ff, ff] rfl rfl (any_of HT_.out (by kernel_rfl)) (fun _ _ _ h => h) (Or.inr ⟨by rfl, rfl⟩) ?_ ?_
        rotate_left
        · simp only [Act.put, List.setIfInBounds_toArray, List.set_cons_zero, List.set_cons_succ, i64_w, i32_w]
          rfl
        refine pure_ (i := 5) (N := some 74) (v := undef) (a' := ?_) #[tt, tt, tt, tt, tt, tt, ff, ff, ff, ff, ff, ff, ff, ff, ff, ff, ff, ff, ff, ff, ff, ff, ff, ff, ff] rfl rfl (any_of HT_.out (by kernel_rfl)) (fun _ _ _ h => h) (Or.inr ⟨by rfl, rfl⟩) ?_ ?_
        rotate_left
        · simp only [Act.put, List.setIfInBounds_toArray, List.set_cons_zero, List.set_cons_succ, i64_w, i32_w]
          rfl
        refine pure_ (i := 6) (N := some 75) (v := undef) (a' := ?_) #[tt, tt, tt, tt, tt, tt, tt, ff, ff, ff, ff, ff, ff, ff, ff, ff, ff, ff, ff, ff, ff, ff, ff, ff, ff] rfl rfl (any_of HT_.out (by kernel_rfl)) (fun _ _ _ h => h) (Or.inr ⟨by rfl, rfl⟩) ?_ ?_
        rotate_left
        · simp only [Act.put, List.setIfInBounds_toArray, List.set_cons_zero, List.set_cons_succ, i64_w, i32_w]
          rfl
        refine pure_ (i := 7) (N := some 76) (v := undef) (a' := ?_) #[tt, tt, tt, tt, tt, tt, tt, tt, ff, ff, ff, ff, ff, ff, ff, ff, ff, ff, ff, ff, ff, ff, ff, ff, ff] rfl rfl (any_of HT_.out (by kernel_rfl)) (fun _ _ _ h => h) (Or.inr ⟨by rfl, rfl⟩) ?_ ?_
        rotate_left
        · simp only [Act.put, List.setIfInBounds_toArray, List.set_cons_zero, List.set_cons_succ, i64_w, i32_w]
          rfl
        refine pure_ (i := 8) (N := some 77) (v := undef) (a' := ?_) #[tt, tt, tt, tt, tt, tt, tt, tt, tt, ff, ff, ff, ff, ff, ff, ff, ff, ff, ff, ff, ff, ff, ff, ff, ff] rfl rfl (any_of HT_.out (by kernel_rfl)) (fun _ _ _ h => h) (Or.inr ⟨by rfl, rfl⟩) ?_ ?_
        rotate_left
        · simp only [Act.put, List.setIfInBounds_toArray, List.set_cons_zero, List.set_cons_succ, i64_w, i32_w]
          rfl
        refine pure_ (i := 9) (N := some 78) (v := undef) (a' := ?_) #[tt, tt, tt, tt, tt, tt, tt, tt, tt, tt, ff, ff, ff, ff, ff, ff, ff, ff, ff, ff, ff, ff, ff, ff, ff] rfl rfl (any_of HT_.out (by kernel_rfl)) (fun _ _ _ h => h) (Or.inr ⟨by rfl, rfl⟩) ?_ ?_
        rotate_left
        · simp only [Act.put, List.setIfInBounds_toArray, List.set_cons_zero, List.set_cons_succ, i64_w, i32_w]
          rfl
        refine pure_ (i := 10) (N := some 79) (v := undef) (a' := ?_) #[tt, tt, tt, tt, tt, tt, tt, tt, tt, tt, tt, ff, ff, ff, ff, ff, ff, ff, ff, ff, ff, ff, ff, ff, ff] rfl rfl (any_of HT_.out (by kernel_rfl)) (fun _ _ _ h => h) (Or.inr ⟨by rfl, rfl⟩) ?_ ?_
        rotate_left
        · simp only [Act.put, List.setIfInBounds_toArray, List.set_cons_zero, List.set_cons_succ, i64_w, i32_w]
          rfl
        refine pure_ (i := 11) (N := some 80) (v := undef) (a' := ?_) #[tt, tt, tt, tt, tt, tt, tt, tt, tt, tt, tt, tt, ff, ff, ff, ff, ff, ff, ff, ff, ff, ff, ff, ff, ff] rfl rfl (any_of HT_.out (by kernel_rfl)) (fun _ _ _ h => h) (Or.inr ⟨by rfl, rfl⟩) ?_ ?_
        rotate_left
        · simp only [Act.put, List.setIfInBounds_toArray, List.set_cons_zero, List.set_cons_succ, i64_w, i32_w]
          rfl
        refine pure_ (i := 12) (N := some 81) (v := undef) (a' := ?_) #[tt, tt, tt, tt, tt, tt, tt, tt, tt, tt, tt, tt, tt, ff, ff, ff, ff, ff, ff, ff, ff, ff, ff, ff, ff] rfl rfl (any_of HT_.out (by kernel_rfl)) (fun _ _ _ h => h) (Or.inr ⟨by rfl, rfl⟩) ?_ ?_
        rotate_left
        · simp only [Act.put, List.setIfInBounds_toArray, List.set_cons_zero, List.set_cons_succ, i64_w, i32_w]
          rfl
        refine pure_ (i := 13) (N := some 82) (v := undef) (a' := ?_) #[tt, tt, tt, tt, tt, tt, tt, tt, tt, tt, tt, tt, tt, tt, ff, ff, ff, ff, ff, ff, ff, ff, ff, ff, ff] rfl rfl (any_of HT_.out (by kernel_rfl)) (fun _ _ _ h => h) (Or.inr ⟨by rfl, rfl⟩) ?_ ?_
        rotate_left
        · simp only [Act.put, List.setIfInBounds_toArray, List.set_cons_zero, List.set_cons_succ, i64_w, i32_w]
          rfl
        refine pure_ (i := 14) (N := some 83) (v := undef) (a' := ?_) #[tt, tt, tt, tt, tt, tt, tt, tt, tt, tt, tt, tt, tt, tt, tt, ff, ff, ff, ff, ff, ff, ff, ff, ff, ff] rfl rfl (any_of HT_.out (by kernel_rfl)) (fun _ _ _ h => h) (Or.inr ⟨by rfl, rfl⟩) ?_ ?_
        rotate_left
        · simp only [Act.put, List.setIfInBounds_toArray, List.set_cons_zero, List.set_cons_succ, i64_w, i32_w]
          rfl
        refine pure_ (i := 15) (N := some 84) (v := undef) (a' := ?_) #[tt, tt, tt, tt, tt, tt, tt, tt, tt, tt, tt, tt, tt, tt, tt, tt, ff, ff, ff, ff, ff, ff, ff, ff, ff] rfl rfl (any_of HT_.out (by kernel_rfl)) (fun _ _ _ h => h) (Or.inr ⟨by rfl, rfl⟩) ?_ ?_
        rotate_left
        · simp only [Act.put, List.setIfInBounds_toArray, List.set_cons_zero, List.set_cons_succ, i64_w, i32_w]
          rfl
        refine pure_ (i := 16) (N := some 85) (v := undef) (a' := ?_) #[tt, tt, tt, tt, tt, tt, tt, tt, tt, tt, tt, tt, tt, tt, tt, tt, tt, ff, ff, ff, ff, ff, ff, ff, ff] rfl rfl (any_of HT_.out (by kernel_rfl)) (fun _ _ _ h => h) (Or.inr ⟨by rfl, rfl⟩) ?_ ?_
        rotate_left
        · simp only [Act.put, List.setIfInBounds_toArray, List.set_cons_zero, List.set_cons_succ, i64_w, i32_w]
          rfl
        refine pure_ (i := 17) (N := some 86) (v := undef) (a' := ?_) #[tt, tt, tt, tt, tt, tt, tt, tt, tt, tt, tt, tt, tt, tt, tt, tt, tt, tt, ff, ff, ff, ff, ff, ff, ff] rfl rfl (any_of HT_.out (by kernel_rfl)) (fun _ _ _ h => h) (Or.inr ⟨by rfl, rfl⟩) ?_ ?_
        rotate_left
        · simp only [Act.put, List.setIfInBounds_toArray, List.set_cons_zero, List.set_cons_succ, i64_w, i32_w]
          rfl
        refine pure_ (i := 18) (N := some 87) (v := undef) (a' := ?_) #[tt, tt, tt, tt, tt, tt, tt, tt, tt, tt, tt, tt, tt, tt, tt, tt, tt, tt, tt, ff, ff, ff, ff, ff, ff] rfl rfl (any_of HT_.out (by kernel_rfl)) (fun _ _ _ h => h) (Or.inr ⟨by rfl, rfl⟩) ?_ ?_
        rotate_left
        · simp only [Act.put, List.setIfInBounds_toArray, List.set_cons_zero, List.set_cons_succ, i64_w, i32_w]
          rfl
        refine pure_ (i := 19) (N := some 88) (v := undef) (a' := ?_) #[tt, tt, tt, tt, tt, tt, tt, tt, tt, tt, tt, tt, tt, tt, tt, tt, tt, tt, tt, tt, ff, ff, ff, ff, ff] rfl rfl (any_of HT_.out (by kernel_rfl)) (fun _ _ _ h => h) (Or.inr ⟨by rfl, rfl⟩) ?_ ?_
        rotate_left
        · simp only [Act.put, List.setIfInBounds_toArray, List.set_cons_zero, List.set_cons_succ, i64_w, i32_w]
          rfl
        refine pure_ (i := 20) (N := some 89) (v := undef) (a' := ?_) #[tt, tt, tt, tt, tt, tt, tt, tt, tt, tt, tt, tt, tt, tt, tt, tt, tt, tt, tt, tt, tt, ff, ff, ff, ff] rfl rfl (any_of HT_.out (by kernel_rfl)) (fun _ _ _ h => h) (Or.inr ⟨by rfl, rfl⟩) ?_ ?_
        rotate_left
        · simp only [Act.put, List.setIfInBounds_toArray, List.set_cons_zero, List.set_cons_succ, i64_w, i32_w]
          rfl
        refine pure_ (i := 21) (N := some 90) (v := undef) (a' := ?_) #[tt, tt, tt, tt, tt, tt, tt, tt, tt, tt, tt, tt, tt, tt, tt, tt, tt, tt, tt, tt, tt, tt, ff, ff, ff] rfl rfl (any_of HT_.out (by kernel_rfl)) (fun _ _ _ h => h) (Or.inr ⟨by rfl, rfl⟩) ?_ ?_
        rotate_left
        · simp only [Act.put, List.setIfInBounds_toArray, List.set_cons_zero, List.set_cons_succ, i64_w, i32_w]
          rfl
        refine pure_ (i := 22) (N := some 91) (v := undef) (a' := ?_) #[tt, tt, tt, tt, tt, tt, tt, tt, tt, tt, tt, tt, tt, tt, tt, tt, tt, tt, tt, tt, tt, tt, tt, ff, ff] rfl rfl (any_of HT_.out (by kernel_rfl)) (fun _ _ _ h => h) (Or.inr ⟨by rfl, rfl⟩) ?_ ?_
        rotate_left
        · simp only [Act.put, List.setIfInBounds_toArray, List.set_cons_zero, List.set_cons_succ, i64_w, i32_w]
          rfl
        refine pure_ (i := 23) (N := some 92) (v := ?_) (a' := ?_) #[tt, tt, tt, tt, tt, tt, tt, tt, tt, tt, tt, tt, tt, tt, tt, tt, tt, tt, tt, tt, tt, tt, tt, tt, ff] rfl rfl (any_of HT_.out (by kernel_rfl)) (fun _ _ _ h => h) (Or.inl ⟨by rfl, ?_⟩) ?_ ?_
        rotate_left
        · intro w'
          go_simp
          with_reducible rfl
        rotate_left
        · simp only [Act.put, List.setIfInBounds_toArray, List.set_cons_zero, List.set_cons_succ, i64_w, i32_w]
          rfl
        refine pure_ (i := 24) (N := some 4) (v := ?_) (a' := ?_) #[tt, tt, tt, tt, tt, tt, tt, tt, tt, tt, tt, tt, tt, tt, tt, tt, tt, tt, tt, tt, tt, tt, tt, tt, tt] rfl rfl (any_of HT_.out (by kernel_rfl)) (fun _ _ _ h => h) (Or.inl ⟨by rfl, ?_⟩) ?_ ?_
        rotate_left
        · intro w'
          go_simp
          with_reducible rfl
        rotate_left
        · simp only [Act.put, List.setIfInBounds_toArray, List.set_cons_zero, List.set_cons_succ, i64_w, i32_w]
          rfl
        refine done_ (done_of HT_.out (by kernel_rfl)) ?_
        try go_wp2
        go_ret
        exact ⟨by first | rfl | (simp [errW_none, errW_some] <;> rfl) | (simp [*, errW_none, errW_some] <;> rfl), by with_reducible repeat (first | exact HB.out | apply below_alloc | apply pw_below_drewN | apply below_drew1 | refine below_set ?_ GE276.out | refine below_set ?_ GE309.out)⟩
      rw [if_neg c32] at H
      have c32b0 : decide (65536 < (y299.length : Int)) = false := decide_eq_false c32
      have c32b1 : decide (65536 < y299.length) = false := decide_eq_false (by omega)
      clear c32
      by_cases c55 : t308 = 0
      rotate_left
      · rw [if_neg c55] at H
        have c55b0 : (t308 == 0) = false := beq_eq_false_iff_ne.mpr c55
        have c55b1 : (t308 != 0) = true := bne_iff_ne.mpr c55
        obtain rfl := Option.some.inj H
        have hcz115_0 : wc.cell? ⟨gb276, 0, none⟩ = some (.int .u32 a0_0) := (blk_cell BK276.out 0).trans rfl
        have hcz115_1 : wc.cell? ⟨gb276, 1, none⟩ = some (.slice A0_1 l0_1.length c0_1) := (blk_cell BK276.out 1).trans rfl
        have hfz115_0 := blk_frozen BK276.out 0
        have hfz115_1 := blk_frozen BK276.out 1
        try go_wp2_with (first | ((with_reducible refine gate_callee (f := 11) rfl ?_); refine goesL_ (some 29) rfl rfl Try.func11 (by kernel_rfl) rfl #[.agg #[.int .u32 a0_0, .slice A0_1 l0_1.length c0_1]] rfl (by (try simp only [List.map_toArray, List.map_cons, List.map_nil]); first | done | rfl | (simp only [List.length_drop, List.length_take]; rfl)) ?_; (with_reducible refine (image_Put.calls kj4 a0_0 _ _ l0_1 t279 t282 _ ?side1 ?side2 A20.out).mono ?_); (case side1 => repeat (first | exact (Kd.C_below HR0_1.out HB.out) | (with_reducible refine Kd.C_alloc ?_ _) | (with_reducible refine Kd.C_drewN ?_ _) | (with_reducible refine Kd.C_drew ?_))); (case side2 => exact HC0_1.out); rintro e w116 ⟨v280, rfl, ho0, hb⟩; refine ⟨_, rfl, ?_⟩; have n0_ := Aside0.mk (Kd.R_lower ho0 (below_size (by with_reducible repeat (first | exact HB.out | apply below_alloc | apply pw_below_drewN | apply below_drew1 | refine below_set ?_ GE276.out)))); have n1_ := Aside0.mk (blk_below (g := gb276) (o := .cells #[.int .u32 a0_0, .slice A0_1 l0_1.length c0_1] 26 (0, 0)) (by (with_reducible repeat (first | refine blk_drewN ?_ _ | refine blk_drew ?_ | refine blk_alloc ?_ _)); exact BK276.out) hb); have n2_ := Aside0.mk (below_step (by with_reducible repeat (first | exact HB.out | apply below_alloc | apply pw_below_drewN | apply below_drew1 | refine below_set ?_ GE276.out)) hb); clear BK276; clear HB; have HO281 := n0_; have BK276 := n1_; have HB := n2_; clear n0_ n1_ n2_; (try clear hb); (try clear hb2); (try clear hk); (try clear hi); (try clear ho0); have hcz117_0 : w116.cell? ⟨gb276, 0, none⟩ = some (.int .u32 a0_0) := (blk_cell BK276.out 0).trans rfl; have hcz117_1 : w116.cell? ⟨gb276, 1, none⟩ = some (.slice A0_1 l0_1.length c0_1) := (blk_cell BK276.out 1).trans rfl; have hfz117_0 := blk_frozen BK276.out 0; have hfz117_1 := blk_frozen BK276.out 1; have p283 : 0 ≤ (0 : Int) := (by omega); have q283 : 0 < (l0_1.length : Int) := of_decide_eq_true (by assumption); obtain ⟨ad283, A283_3, c283_3, e283, hx283_0, hx283_1, hx283_2, hx283_3, hl283_3, hi283_3⟩ := at_T30 HR0_1.out 0 p283 q283; cases e283; have qi283 : (0 < l0_1.length) = True := eq_true (by omega); (try rw [show ((0 : Int)).toNat = 0 from rfl] at hx283_0); (try rw [show 0 * 4 = 0 from rfl] at hx283_0); (try rw [Addr.add_zero'] at hx283_0); (try rw [show ((0 : Int)).toNat = 0 from rfl] at hx283_1); (try rw [show 0 * 4 = 0 from rfl] at hx283_1); (try rw [Addr.add_zero'] at hx283_1); (try rw [show ((0 : Int)).toNat = 0 from rfl] at hx283_2); (try rw [show 0 * 4 = 0 from rfl] at hx283_2); (try rw [Addr.add_zero'] at hx283_2); (try rw [show ((0 : Int)).toNat = 0 from rfl] at hx283_3); (try rw [show 0 * 4 = 0 from rfl] at hx283_3); (try rw [Addr.add_zero'] at hx283_3); replace hx283_0 := (HB.out.cell (World.block_lt_of_cell? w _ hx283_0)).trans hx283_0; replace hx283_1 := (HB.out.cell (World.block_lt_of_cell? w _ hx283_1)).trans hx283_1; replace hx283_2 := (HB.out.cell (World.block_lt_of_cell? w _ hx283_2)).trans hx283_2; replace hx283_3 := (HB.out.cell (World.block_lt_of_cell? w _ hx283_3)).trans hx283_3; have HR283_3 := Aside0.mk hi283_3; have HC283_3 := Aside0.mk hl283_3; clear hi283_3 hl283_3; replace p283 := eq_true p283; replace q283 := eq_true q283))
        have n0_ := Aside0.mk (Kd.R_drew HO281.out)
        have n1_ := Aside0.mk (blk_drew BK276.out)
        have n2_ := Aside0.mk (below_drew1 HB.out)
        clear HO281 BK276 HB
        have HO281 := n0_
        have BK276 := n1_
        have HB := n2_
        clear n0_ n1_ n2_
        obtain ⟨Ao120, co120, eo120⟩ := Kd.R_slice HO281.out
        (first | subst eo120 | (injection eo120 with f1_ f2_ f3_; have f4_ := f1_.symm; have f5_ := f3_.symm; clear f1_ f2_ f3_; subst f4_; subst f5_))
        have q119 : (84 : Int) ≤ ((t279.length : Int) : Int) := of_decide_eq_true (by assumption)
        obtain ⟨i0119, hi0119, _, hsz119, _⟩ := info_parts info5
        have hroom119 : t279.length ≤ co120 := (Kd.R_reads' HO281.out).2.1
        have hC119 : Kd.F (Kd.int .u8) _ _ Ao120 t279.length t279 := (Kd.V_at (base := w.heap.size) (Kd.R_V (Kd.R_types (HO281.out) BK276.out (by decide)))).2.2
        have hcut119 := cut_to (P := Try.prog) 28 5 .i64 Try.underlying28 hi0119 Ao120 t279.length co120 84 (by omega) q119 hroom119
        have hr119 := Kd.F_take (m := 84) hC119 (by omega)
        have hy119 : y287.length = (84 : Int).toNat := (by rw [Ny287.out, List.length_take]; omega)
        rw [← Ny287.out] at hr119
        rw [← hy119] at hcut119
        have HO291 := Aside0.mk (show Kd.V (Kd.int .u8) 5 _ w.heap.size _ (.slice Ao120 y287.length co120) y287 from Kd.V_mk (by omega) hr119)
        have HC291 := Aside0.mk (show y287.length ≤ co120 from by omega)
        clear hr119 hC119 hroom119 hi0119 hsz119
        have KY119 := Aside0.mk hy119
        clear hy119
        replace q119 := eq_true q119
        have p298 : 0 ≤ (0 : Int) := (by omega)
        have q298 : 0 < (l0_1.length : Int) := of_decide_eq_true (by assumption)
        obtain ⟨ad298, A298_3, c298_3, e298, hx298_0, hx298_1, hx298_2, hx298_3, hl298_3, hi298_3⟩ := at_T30 HR0_1.out 0 p298 q298
        have hw298_3 := hx298_3
        (try rw [show ((0 : Int)).toNat = 0 from rfl] at hw298_3)
        (try rw [show 0 * 4 = 0 from rfl] at hw298_3)
        (try rw [Addr.add_zero'] at hw298_3)
        have hw298_2 := hx298_2
        (try rw [show ((0 : Int)).toNat = 0 from rfl] at hw298_2)
        (try rw [show 0 * 4 = 0 from rfl] at hw298_2)
        (try rw [Addr.add_zero'] at hw298_2)
        have hw298_1 := hx298_1
        (try rw [show ((0 : Int)).toNat = 0 from rfl] at hw298_1)
        (try rw [show 0 * 4 = 0 from rfl] at hw298_1)
        (try rw [Addr.add_zero'] at hw298_1)
        have hw298_0 := hx298_0
        (try rw [show ((0 : Int)).toNat = 0 from rfl] at hw298_0)
        (try rw [show 0 * 4 = 0 from rfl] at hw298_0)
        (try rw [Addr.add_zero'] at hw298_0)
        obtain rfl : ad283 = ad298 := (by injection e298)
        have qi298 : (0 < l0_1.length) = True := eq_true (by omega)
        (try rw [show ((0 : Int)).toNat = 0 from rfl] at hx298_0)
        (try rw [show 0 * 4 = 0 from rfl] at hx298_0)
        (try rw [Addr.add_zero'] at hx298_0)
        (try rw [show ((0 : Int)).toNat = 0 from rfl] at hx298_1)
        (try rw [show 0 * 4 = 0 from rfl] at hx298_1)
        (try rw [Addr.add_zero'] at hx298_1)
        (try rw [show ((0 : Int)).toNat = 0 from rfl] at hx298_2)
        (try rw [show 0 * 4 = 0 from rfl] at hx298_2)
        (try rw [Addr.add_zero'] at hx298_2)
        (try rw [show ((0 : Int)).toNat = 0 from rfl] at hx298_3)
        (try rw [show 0 * 4 = 0 from rfl] at hx298_3)
        (try rw [Addr.add_zero'] at hx298_3)
        replace hx298_0 := (HB.out.cell (World.block_lt_of_cell? w _ hx298_0)).trans hx298_0
        replace hx298_1 := (HB.out.cell (World.block_lt_of_cell? w _ hx298_1)).trans hx298_1
        replace hx298_2 := (HB.out.cell (World.block_lt_of_cell? w _ hx298_2)).trans hx298_2
        replace hx298_3 := (HB.out.cell (World.block_lt_of_cell? w _ hx298_3)).trans hx298_3
        have HR298_3 := Aside0.mk hi298_3
        have HC298_3 := Aside0.mk hl298_3
        clear hi298_3 hl298_3
        replace p298 := eq_true p298
        replace q298 := eq_true q298
        refine start_ (n := 13) (S := fun w' => w'.cell? ⟨gb276, 0, none⟩ = some (.int .u32 a0_0) ∧ w'.cell? ⟨gb276, 1, none⟩ = some (.slice (some ad283) l0_1.length c0_1) ∧ w'.cell? ad283 = some (.int .u32 ((rd_T30 l0_1 0).f0)) ∧ w'.cell? ⟨ad283.block, ad283.off + 1, none⟩ = some (.int .u32 ((rd_T30 l0_1 0).f1)) ∧ w'.cell? ⟨ad283.block, ad283.off + 2, none⟩ = some (.int .i64 ((rd_T30 l0_1 0).f2)) ∧ w'.cell? ⟨ad283.block, ad283.off + 3, none⟩ = some (.slice A298_3 ((rd_T30 l0_1 0).f3).length c298_3)) (ds := []) #[ff, ff, ff, ff, ff, ff, ff, ff, ff, ff, ff, ff, ff] (by kernel_rfl) rfl rfl ⟨(blk_cell BK276.out 0).trans rfl, (blk_cell BK276.out 1).trans rfl, ((HB.out.cell (World.block_lt_of_cell? w _ hw298_0)).trans hw298_0), ((HB.out.cell (World.block_lt_of_cell? w _ hw298_1)).trans hw298_1), ((HB.out.cell (World.block_lt_of_cell? w _ hw298_2)).trans hw298_2), ((HB.out.cell (World.block_lt_of_cell? w _ hw298_3)).trans hw298_3)⟩ (fun hHeld => ?_); refine with_tabW tincturelaw8_ImageMoved.tab9 tincturelaw8_ImageMoved.bits9 (fun HT_ HW_ => ?_)
        generalize w116.drew = w118 at HO281 BK276 HB HO291 HR298_3 hx298_0 hx298_1 hx298_2 hx298_3 hHeld ⊢
        refine pure_ (i := 1) (N := some 41) (v := ?_) (a' := ?_) #[ff, tt, ff, ff, ff, ff, ff, ff, ff, ff, ff, ff, ff] rfl rfl (any_of HT_.out (by kernel_rfl)) (fun _ _ _ h => h) (Or.inl ⟨by rfl, ?_⟩) ?_ ?_
        rotate_left
        · intro w'
          go_simp
          with_reducible rfl
        rotate_left
        · simp only [Act.put, List.setIfInBounds_toArray, List.set_cons_zero, List.set_cons_succ, i64_w, i32_w]
          rfl
        refine pure_ (i := 2) (N := some 42) (v := ?_) (a' := ?_) #[ff, tt, tt, ff, ff, ff, ff, ff, ff, ff, ff, ff, ff] rfl rfl (any_of HT_.out (by kernel_rfl)) (fun _ _ _ h => h) (Or.inl ⟨by rfl, ?_⟩) ?_ ?_
        rotate_left
        · intro w'
          go_simp
          with_reducible rfl
        rotate_left
        · simp only [Act.put, List.setIfInBounds_toArray, List.set_cons_zero, List.set_cons_succ, i64_w, i32_w]
          rfl
        refine pure_ (i := 4) (N := some 44) (v := ?_) (a' := ?_) #[ff, tt, tt, ff, tt, ff, ff, ff, ff, ff, ff, ff, ff] rfl rfl (any_of HT_.out (by kernel_rfl)) (fun _ _ _ h => h) (Or.inl ⟨by rfl, ?_⟩) ?_ ?_
        rotate_left
        · intro w'
          go_simp
          with_reducible rfl
        rotate_left
        · simp only [Act.put, List.setIfInBounds_toArray, List.set_cons_zero, List.set_cons_succ, i64_w, i32_w]
          rfl
        refine pure_ (i := 6) (N := some 46) (v := ?_) (a' := ?_) #[ff, tt, tt, ff, tt, ff, tt, ff, ff, ff, ff, ff, ff] rfl rfl (any_of HT_.out (by kernel_rfl)) (fun _ _ _ h => h) (Or.inl ⟨by rfl, ?_⟩) ?_ ?_
        rotate_left
        · intro w'
          go_simp
          with_reducible rfl
        rotate_left
        · simp only [Act.put, List.setIfInBounds_toArray, List.set_cons_zero, List.set_cons_succ, i64_w, i32_w]
          rfl
        refine take_ (i := 7) (N := some 47) (v := ?_) (a' := ?_) #[ff, tt, tt, ff, tt, ff, tt, tt, ff, ff, ff, ff, ff] rfl rfl (take_ofW HT_.out HW_.out (by kernel_rfl)) (fun _ _ _ h => h) (Or.inl ⟨by rfl, ?_⟩) hHeld ?_ ?_
        rotate_left
        · rintro w' ⟨s0, s1, s2, s3, s4, s5⟩
          go_simp
          with_reducible rfl
        rotate_left
        · simp only [Act.put, List.setIfInBounds_toArray, List.set_cons_zero, List.set_cons_succ, i64_w, i32_w]
          rfl
        refine pure_ (i := 8) (N := some 48) (v := ?_) (a' := ?_) #[ff, tt, tt, ff, tt, ff, tt, tt, tt, ff, ff, ff, ff] rfl rfl (any_of HT_.out (by kernel_rfl)) (fun _ _ _ h => h) (Or.inl ⟨by rfl, ?_⟩) ?_ ?_
        rotate_left
        · intro w'
          go_simp
          with_reducible rfl
        rotate_left
        · simp only [Act.put, List.setIfInBounds_toArray, List.set_cons_zero, List.set_cons_succ, i64_w, i32_w]
          rfl
        refine pure_ (i := 9) (N := some 49) (v := ?_) (a' := ?_) #[ff, tt, tt, ff, tt, ff, tt, tt, tt, tt, ff, ff, ff] rfl rfl (any_of HT_.out (by kernel_rfl)) (fun _ _ _ h => h) (Or.inl ⟨by rfl, ?_⟩) ?_ ?_
        rotate_left
        · intro w'
          go_simp
          with_reducible rfl
        rotate_left
        · simp only [Act.put, List.setIfInBounds_toArray, List.set_cons_zero, List.set_cons_succ, i64_w, i32_w]
          rfl
        refine take_ (i := 10) (N := some 50) (v := ?_) (a' := ?_) #[ff, tt, tt, ff, tt, ff, tt, tt, tt, tt, tt, ff, ff] rfl rfl (take_ofW HT_.out HW_.out (by kernel_rfl)) (fun _ _ _ h => h) (Or.inl ⟨by rfl, ?_⟩) hHeld ?_ ?_
        rotate_left
        · rintro w' ⟨s0, s1, s2, s3, s4, s5⟩
          go_simp
          with_reducible rfl
        rotate_left
        · simp only [Act.put, List.setIfInBounds_toArray, List.set_cons_zero, List.set_cons_succ, i64_w, i32_w]
          rfl
        refine one_ (i := 0) (N := some 40) #[tt, tt, tt, ff, tt, ff, tt, tt, tt, tt, tt, ff, ff] rfl rfl (one_of HT_.out (by kernel_rfl)) (by decide) (fun K hK => ?_)
        refine Kd.R_lit_step (Kd.int .u8) _ 5 ?hg (N := 40) ?hd (xs := ([] : List Int)) (inner := []) (ok := fun _ => True) (okp := fun _ => True) ?hr ?hp (fun _ hk => hk) trivial (Below.refl _ _) (Nat.le_refl _) (by simp) ?_; (case hd => rfl); (case hg => rfl); (case hr => first | (go_simp; done) | (go_simp; rfl)); (case hp => exact (Reps.none _ _))
        intro v285 w121 ho122 hb hg_ hnew_
        clear hg_ hnew_
        (first | rw [← Ny284.out] at ho122 | (simp only [Int.reduceToNat] at ho122; rw [← Ny284.out] at ho122))
        have n0_ := Aside0.mk (Kd.R_elder' (by (with_reducible repeat (first | apply Kd.R_alloc | apply Kd.R_drewN | apply Kd.R_drew)); exact HO281.out) (Kd.R_base ho122) hb)
        have n1_ := Aside0.mk (Kd.V_elder' (by (with_reducible repeat (first | apply Kd.V_alloc | apply Kd.V_drewN | apply Kd.V_drew)); exact HO291.out) (Kd.R_base ho122) hb)
        have n2_ := Aside0.mk (Kd.R_lower (Kd.R_new' ho122 (Kd.R_lt (by (with_reducible repeat (first | apply Kd.R_alloc | apply Kd.R_drewN | apply Kd.R_drew)); exact HO281.out))) (below_size (by with_reducible repeat (first | exact HB.out | apply below_alloc | apply pw_below_drewN | apply below_drew1 | refine below_set ?_ GE276.out))))
        have n3_ := Aside0.mk (blk_below (g := gb276) (o := .cells #[.int .u32 a0_0, .slice (some ad283) l0_1.length c0_1] 26 (0, 0)) (by (with_reducible repeat (first | refine blk_drewN ?_ _ | refine blk_drew ?_ | refine blk_alloc ?_ _)); exact BK276.out) hb)
        have n4_ := Aside0.mk (below_step (by with_reducible repeat (first | exact HB.out | apply below_alloc | apply pw_below_drewN | apply below_drew1 | refine below_set ?_ GE276.out)) hb)
        clear HO281 HO291 BK276 HB
        have HO281 := n0_
        have HO291 := n1_
        have HO286 := n2_
        have BK276 := n3_
        have HB := n4_
        clear n0_ n1_ n2_ n3_ n4_ hb ho122
        refine hK.out _ _ ⟨(blk_cell BK276.out 0).trans rfl, (blk_cell BK276.out 1).trans rfl, ((HB.out.cell (World.block_lt_of_cell? w _ hw298_0)).trans hw298_0), ((HB.out.cell (World.block_lt_of_cell? w _ hw298_1)).trans hw298_1), ((HB.out.cell (World.block_lt_of_cell? w _ hw298_2)).trans hw298_2), ((HB.out.cell (World.block_lt_of_cell? w _ hw298_3)).trans hw298_3)⟩ (fun hHeld => ?_)
        clear hK K
        refine norm_ (a' := ?_) ?_ ?_
        rotate_left
        · show Act.put _ (some 40) _ = _
          simp only [Act.put, List.setIfInBounds_toArray, List.set_cons_zero, List.set_cons_succ, i64_w, i32_w]
          rfl
        refine one_ (i := 3) (N := some 43) #[tt, tt, tt, tt, tt, ff, tt, tt, tt, tt, tt, ff, ff] rfl rfl (one_of HT_.out (by kernel_rfl)) (by decide) (fun K hK => ?_)
        refine Kd.R_append_rows_step (Kd.int .u8) (w0 := w) w.heap.size (by rfl) (.tmp 40) (.tmp 42) 28 5 (.int .u8 0) 1 rfl Try.underlying28 info5 rfl (by decide) (by omega) v285 y284 y287 _ _ _ (fun k_ => some k_ ≠ (.slice Ao120 t279.length co120 : Value).ownBlock) (fun _ => False) rfl rfl ?aO ?aR (fun _ _ h => h) (fun _ h => h.elim) ?aF ?aB ?aS ?aL ?_
        (case aR => repeat (first | exact (Kd.V_reads' HO291.out).2.2 | (with_reducible refine Kd.C_alloc ?_ _) | (with_reducible refine Kd.C_drewN ?_ _) | (with_reducible refine Kd.C_drew ?_)))
        (case aB => exact (by with_reducible repeat (first | exact HB.out | apply below_alloc | apply pw_below_drewN | apply below_drew1 | refine below_set ?_ GE276.out)))
        (case aF => exact (fun k_ hk => Kd.fresh' (Kd.R_lt (by (with_reducible repeat (first | apply Kd.R_alloc | apply Kd.R_drewN | apply Kd.R_drew)); exact HO281.out)) k_ hk))
        (case aO => exact (by (with_reducible repeat (first | apply Kd.R_alloc | apply Kd.R_drewN | apply Kd.R_drew)); exact Kd.R_mono HO286.out (fun _ hk => hk.2)))
        (case aS => exact (below_size (by with_reducible repeat (first | exact HB.out | apply below_alloc | apply pw_below_drewN | apply below_drew1 | refine below_set ?_ GE276.out))))
        (case aL => have := LMc24.out; omega)
        intro v293 w123 ho hb hg hat
        rw [← Ny292.out] at ho
        have n0_ := Aside0.mk (blk_grown (g := gb276) (o := .cells #[.int .u32 a0_0, .slice (some ad283) l0_1.length c0_1] 26 (0, 0)) (by (with_reducible repeat (first | refine blk_drewN ?_ _ | refine blk_drew ?_ | refine blk_alloc ?_ _)); exact BK276.out) hg (Kd.R_ne HO286.out BK276.out (by decide)))
        have n1_ := Aside0.mk (Kd.R_after (ok := (fun _ => True)) (by (with_reducible repeat (first | apply Kd.R_alloc | apply Kd.R_drewN | apply Kd.R_drew)); exact HO281.out) hg hat)
        have n2_ := Aside0.mk (Kd.V_afterv (ok := (fun k_ => k_ ≠ gb276)) (by (with_reducible repeat (first | apply Kd.V_alloc | apply Kd.V_drewN | apply Kd.V_drew)); exact Kd.V_mono HO291.out (fun _ hk => ⟨hk.1.2, hk.2⟩)) hg hat)
        have n3_ := Aside0.mk (hb)
        have n4_ := Aside0.mk (ho)
        clear BK276 HO281 HO291 HB HO286
        have BK276 := n0_
        have HO281 := n1_
        have HO291 := n2_
        have HB := n3_
        have HO294 := n4_
        clear n0_ n1_ n2_ n3_ n4_ ho hb hg hat
        refine hK.out _ _ ⟨(blk_cell BK276.out 0).trans rfl, (blk_cell BK276.out 1).trans rfl, ((HB.out.cell (World.block_lt_of_cell? w _ hw298_0)).trans hw298_0), ((HB.out.cell (World.block_lt_of_cell? w _ hw298_1)).trans hw298_1), ((HB.out.cell (World.block_lt_of_cell? w _ hw298_2)).trans hw298_2), ((HB.out.cell (World.block_lt_of_cell? w _ hw298_3)).trans hw298_3)⟩ (fun hHeld => ?_)
        clear hK K
        refine norm_ (a' := ?_) ?_ ?_
        rotate_left
        · show Act.put _ (some 43) _ = _
          simp only [Act.put, List.setIfInBounds_toArray, List.set_cons_zero, List.set_cons_succ, i64_w, i32_w]
          rfl
        refine one_ (i := 5) (N := some 45) #[tt, tt, tt, tt, tt, tt, tt, tt, tt, tt, tt, ff, ff] rfl rfl (one_of HT_.out (by kernel_rfl)) (by decide) (fun K hK => ?_)
        refine Kd.R_append_rows_step (Kd.int .u8) (w0 := w) w.heap.size (by rfl) (.tmp 43) (.tmp 44) 28 5 (.int .u8 0) 1 rfl Try.underlying28 info5 rfl (by decide) (by omega) v293 y292 l1 _ _ _ (fun k_ => some k_ ≠ (.slice Ao120 t279.length co120 : Value).ownBlock) (fun _ => False) rfl rfl ?aO ?aR (fun _ _ h => h) (fun _ h => h.elim) ?aF ?aB ?aS ?aL ?_
        (case aR => repeat (first | exact (Kd.C_below HR1.out HB.out) | (with_reducible refine Kd.C_alloc ?_ _) | (with_reducible refine Kd.C_drewN ?_ _) | (with_reducible refine Kd.C_drew ?_)))
        (case aB => exact (by with_reducible repeat (first | exact HB.out | apply below_alloc | apply pw_below_drewN | apply below_drew1 | refine below_set ?_ GE276.out)))
        (case aF => exact (fun k_ hk => Kd.fresh' (Kd.R_lt (by (with_reducible repeat (first | apply Kd.R_alloc | apply Kd.R_drewN | apply Kd.R_drew)); exact HO281.out)) k_ hk))
        (case aO => exact (by (with_reducible repeat (first | apply Kd.R_alloc | apply Kd.R_drewN | apply Kd.R_drew)); exact HO294.out))
        (case aS => exact (below_size (by with_reducible repeat (first | exact HB.out | apply below_alloc | apply pw_below_drewN | apply below_drew1 | refine below_set ?_ GE276.out))))
        (case aL => have := LMc25.out; omega)
        intro v296 w124 ho hb hg hat
        rw [← Ny295.out] at ho
        have n0_ := Aside0.mk (blk_grown (g := gb276) (o := .cells #[.int .u32 a0_0, .slice (some ad283) l0_1.length c0_1] 26 (0, 0)) (by (with_reducible repeat (first | refine blk_drewN ?_ _ | refine blk_drew ?_ | refine blk_alloc ?_ _)); exact BK276.out) hg (Kd.R_ne HO294.out BK276.out (by decide)))
        have n1_ := Aside0.mk (Kd.R_after (ok := (fun _ => True)) (by (with_reducible repeat (first | apply Kd.R_alloc | apply Kd.R_drewN | apply Kd.R_drew)); exact HO281.out) hg hat)
        have n2_ := Aside0.mk (Kd.V_afterv (ok := (fun k_ => k_ ≠ gb276)) (by (with_reducible repeat (first | apply Kd.V_alloc | apply Kd.V_drewN | apply Kd.V_drew)); exact HO291.out) hg hat)
        have n3_ := Aside0.mk (hb)
        have n4_ := Aside0.mk (ho)
        clear BK276 HO281 HO291 HB HO294
        have BK276 := n0_
        have HO281 := n1_
        have HO291 := n2_
        have HB := n3_
        have HO297 := n4_
        clear n0_ n1_ n2_ n3_ n4_ ho hb hg hat
        refine hK.out _ _ ⟨(blk_cell BK276.out 0).trans rfl, (blk_cell BK276.out 1).trans rfl, ((HB.out.cell (World.block_lt_of_cell? w _ hw298_0)).trans hw298_0), ((HB.out.cell (World.block_lt_of_cell? w _ hw298_1)).trans hw298_1), ((HB.out.cell (World.block_lt_of_cell? w _ hw298_2)).trans hw298_2), ((HB.out.cell (World.block_lt_of_cell? w _ hw298_3)).trans hw298_3)⟩ (fun hHeld => ?_)
        clear hK K
        refine norm_ (a' := ?_) ?_ ?_
        rotate_left
        · show Act.put _ (some 45) _ = _
          simp only [Act.put, List.setIfInBounds_toArray, List.set_cons_zero, List.set_cons_succ, i64_w, i32_w]
          rfl
        refine one_ (i := 11) (N := some 51) #[tt, tt, tt, tt, tt, tt, tt, tt, tt, tt, tt, tt, ff] rfl rfl (one_of HT_.out (by kernel_rfl)) (by decide) (fun K hK => ?_)
        refine Kd.R_append_rows_step (Kd.int .u8) (w0 := w) w.heap.size (by rfl) (.tmp 45) (.tmp 50) 28 5 (.int .u8 0) 1 rfl Try.underlying28 info5 rfl (by decide) (by omega) v296 y295 ((rd_T30 l0_1 0).f3) _ _ _ (fun k_ => some k_ ≠ (.slice Ao120 t279.length co120 : Value).ownBlock) (fun _ => False) rfl rfl ?aO ?aR (fun _ _ h => h) (fun _ h => h.elim) ?aF ?aB ?aS ?aL ?_
        (case aR => repeat (first | exact (Kd.C_below HR298_3.out HB.out) | (with_reducible refine Kd.C_alloc ?_ _) | (with_reducible refine Kd.C_drewN ?_ _) | (with_reducible refine Kd.C_drew ?_)))
        (case aB => exact (by with_reducible repeat (first | exact HB.out | apply below_alloc | apply pw_below_drewN | apply below_drew1 | refine below_set ?_ GE276.out)))
        (case aF => exact (fun k_ hk => Kd.fresh' (Kd.R_lt (by (with_reducible repeat (first | apply Kd.R_alloc | apply Kd.R_drewN | apply Kd.R_drew)); exact HO281.out)) k_ hk))
        (case aO => exact (by (with_reducible repeat (first | apply Kd.R_alloc | apply Kd.R_drewN | apply Kd.R_drew)); exact HO297.out))
        (case aS => exact (below_size (by with_reducible repeat (first | exact HB.out | apply below_alloc | apply pw_below_drewN | apply below_drew1 | refine below_set ?_ GE276.out))))
        (case aL => have := LMc26.out; omega)
        intro v300 w125 ho hb hg hat
        rw [← Ny299.out] at ho
        have n0_ := Aside0.mk (blk_grown (g := gb276) (o := .cells #[.int .u32 a0_0, .slice (some ad283) l0_1.length c0_1] 26 (0, 0)) (by (with_reducible repeat (first | refine blk_drewN ?_ _ | refine blk_drew ?_ | refine blk_alloc ?_ _)); exact BK276.out) hg (Kd.R_ne HO297.out BK276.out (by decide)))
        have n1_ := Aside0.mk (Kd.R_after (ok := (fun _ => True)) (by (with_reducible repeat (first | apply Kd.R_alloc | apply Kd.R_drewN | apply Kd.R_drew)); exact HO281.out) hg hat)
        have n2_ := Aside0.mk (Kd.V_afterv (ok := (fun k_ => k_ ≠ gb276)) (by (with_reducible repeat (first | apply Kd.V_alloc | apply Kd.V_drewN | apply Kd.V_drew)); exact HO291.out) hg hat)
        have n3_ := Aside0.mk (hb)
        have n4_ := Aside0.mk (ho)
        clear BK276 HO281 HO291 HB HO297
        have BK276 := n0_
        have HO281 := n1_
        have HO291 := n2_
        have HB := n3_
        have HO301 := n4_
        clear n0_ n1_ n2_ n3_ n4_ ho hb hg hat
        refine hK.out _ _ ⟨(blk_cell BK276.out 0).trans rfl, (blk_cell BK276.out 1).trans rfl, ((HB.out.cell (World.block_lt_of_cell? w _ hw298_0)).trans hw298_0), ((HB.out.cell (World.block_lt_of_cell? w _ hw298_1)).trans hw298_1), ((HB.out.cell (World.block_lt_of_cell? w _ hw298_2)).trans hw298_2), ((HB.out.cell (World.block_lt_of_cell? w _ hw298_3)).trans hw298_3)⟩ (fun hHeld => ?_)
        clear hK K
        refine norm_ (a' := ?_) ?_ ?_
        rotate_left
        · show Act.put _ (some 51) _ = _
          simp only [Act.put, List.setIfInBounds_toArray, List.set_cons_zero, List.set_cons_succ, i64_w, i32_w]
          rfl
        refine pure_ (i := 12) (N := some 8) (v := ?_) (a' := ?_) #[tt, tt, tt, tt, tt, tt, tt, tt, tt, tt, tt, tt, tt] rfl rfl (any_of HT_.out (by kernel_rfl)) (fun _ _ _ h => h) (Or.inl ⟨by rfl, ?_⟩) ?_ ?_
        rotate_left
        · intro w'
          go_simp
          with_reducible rfl
        rotate_left
        · simp only [Act.put, List.setIfInBounds_toArray, List.set_cons_zero, List.set_cons_succ, i64_w, i32_w]
          rfl
        refine done_ (done_of HT_.out (by kernel_rfl)) ?_
        have p28 : 0 ≤ (56 : Int) := (by omega)
        have q28 : (56 : Int) < ((y299.length : Int) : Int) := of_decide_eq_true (by assumption)
        have qi28 : (56 < y299.length) = True := eq_true (by omega)
        obtain ⟨go28, co28, eo28, gb28, gl28, cl28, HG28⟩ := Kd.R_form HO301.out (by omega)
        (first | cases eo28 | (injection eo28 with ea_ en_ ec_; (first | subst ea_ | (injection ea_ with ea_; subst ea_)); subst ec_; clear en_))
        have GB28 := Aside0.mk gb28
        have GG28 := Aside0.mk HG28
        clear gb28 gl28 HG28
        obtain ⟨hx28_0, hf28_0⟩ := Kd.R_celln 0 HO301.out (56 : Int) p28 q28
        (try rw [show ((56 : Int)).toNat = 56 from rfl] at hx28_0)
        (try simp only [Nat.reduceMul, Nat.zero_mul, Nat.zero_add, Nat.reduceAdd] at hx28_0)
        (try rw [show ((56 : Int)).toNat = 56 from rfl] at hf28_0)
        (try simp only [Nat.reduceMul, Nat.zero_mul, Nat.zero_add, Nat.reduceAdd] at hf28_0)
        replace p28 := eq_true p28
        replace q28 := eq_true q28
        obtain ⟨hy126_, hz126_⟩ := Kd.R_celln 0 HO301.out (56 : Int) (by omega) (of_decide_eq_true (by assumption))
        (try simp only [Int.reduceToNat, Int.toNat_zero, Int.toNat_ofNat, Nat.reduceMul, Nat.zero_mul, Nat.zero_add] at hy126_ hz126_)
        (try rw [show ((56 : Int)).toNat = 56 from rfl] at hy126_)
        (try rw [show ((56 : Int)).toNat = 56 from rfl] at hz126_)
        have HP126 := Kd.R_putg HO301.out (56 : Int) ((wrap64 (84 + (l1.length : Int))) % 256)
        try go_wp2_with (first | ((with_reducible refine gate_store (t := 5) (p := 62) rfl ?_); refine store_event (t := 5) (p := 62) (v := ?vo_w127) (w1 := (w125.setCell ⟨go28, (56 : Int).toNat, none⟩ (.int .u8 ((wrap64 (84 + (l1.length : Int))) % 256)))) ?hg ?ho ?hn ?hr ?_; (case ho => rfl); (case hg => rfl); (case hn => rfl); (case hr => first | (go_simp; done) | (go_simp; rfl)); intro w127 hw; have hg : w125.grownBy w127 (some go28) := (by rw [hw]; exact HP126.2); have hp_ : Kd.R (Kd.int .u8) 5 w127 w.heap.size (fun k_ => some k_ ≠ (.slice Ao120 t279.length co120 : Value).ownBlock) (.slice (some ⟨go28, 0, none⟩) y299.length co28) y302 := (by rw [hw, Ny302.out]; exact HP126.1); clear HP126; have n0_ := Aside0.mk (blk_grown (g := gb276) (o := .cells #[.int .u32 a0_0, .slice (some ad283) l0_1.length c0_1] 26 (0, 0)) (by (with_reducible repeat (first | refine blk_drewN ?_ _ | refine blk_drew ?_ | refine blk_alloc ?_ _)); exact BK276.out) hg (Kd.R_ne HO301.out BK276.out (by decide))); have n1_ := Aside0.mk (Kd.R_after (v := (.slice (some ⟨go28, 0, none⟩) y299.length co28)) (v1 := (.slice (some ⟨go28, 0, none⟩) y299.length co28)) (ok := (fun _ => True)) (by (with_reducible repeat (first | apply Kd.R_alloc | apply Kd.R_drewN | apply Kd.R_drew)); exact HO281.out) hg (.inl rfl)); have n2_ := Aside0.mk (Kd.V_afterv (v := (.slice (some ⟨go28, 0, none⟩) y299.length co28)) (v1 := (.slice (some ⟨go28, 0, none⟩) y299.length co28)) (ok := (fun k_ => k_ ≠ gb276)) (by (with_reducible repeat (first | apply Kd.V_alloc | apply Kd.V_drewN | apply Kd.V_drew)); exact HO291.out) hg (.inl rfl)); have n3_ := Aside0.mk (hp_); have n4_ := Aside0.mk ((by rw [hw]; exact below_set (HB.out) GB28.out : Below w.heap.size w w127)); clear BK276; clear HO281; clear HO291; clear HO301; clear HB; have BK276 := n0_; have HO281 := n1_; have HO291 := n2_; have HO301 := n3_; have HB := n4_; clear n0_ n1_ n2_ n3_ n4_; clear hg hw hp_; have p30 : 0 ≤ (57 : Int) := (by omega); have q30 : (57 : Int) < ((y299.length : Int) : Int) := of_decide_eq_true (by assumption); have qi30 : (57 < y299.length) = True := eq_true (by omega); obtain ⟨hx30_0, hf30_0⟩ := Kd.R_celln 0 HO301.out (57 : Int) p30 q30; (try rw [show ((57 : Int)).toNat = 57 from rfl] at hx30_0); (try simp only [Nat.reduceMul, Nat.zero_mul, Nat.zero_add, Nat.reduceAdd] at hx30_0); (try rw [show ((57 : Int)).toNat = 57 from rfl] at hf30_0); (try simp only [Nat.reduceMul, Nat.zero_mul, Nat.zero_add, Nat.reduceAdd] at hf30_0); replace p30 := eq_true p30; replace q30 := eq_true q30; obtain ⟨hy128_, hz128_⟩ := Kd.R_celln 0 HO301.out (57 : Int) (by omega) (of_decide_eq_true (by assumption)); (try simp only [Int.reduceToNat, Int.toNat_zero, Int.toNat_ofNat, Nat.reduceMul, Nat.zero_mul, Nat.zero_add] at hy128_ hz128_); (try rw [show ((57 : Int)).toNat = 57 from rfl] at hy128_); (try rw [show ((57 : Int)).toNat = 57 from rfl] at hz128_); have HP128 := Kd.R_putg HO301.out (57 : Int) (((wrap64 (84 + (l1.length : Int))) / 256) % 256)) | ((with_reducible refine gate_store (t := 5) (p := 63) rfl ?_); refine store_event (t := 5) (p := 63) (v := ?vo_w129) (w1 := (w127.setCell ⟨go28, (57 : Int).toNat, none⟩ (.int .u8 (((wrap64 (84 + (l1.length : Int))) / 256) % 256)))) ?hg ?ho ?hn ?hr ?_; (case ho => rfl); (case hg => rfl); (case hn => rfl); (case hr => first | (go_simp; done) | (go_simp; rfl)); intro w129 hw; have hg : w127.grownBy w129 (some go28) := (by rw [hw]; exact HP128.2); have hp_ : Kd.R (Kd.int .u8) 5 w129 w.heap.size (fun k_ => some k_ ≠ (.slice Ao120 t279.length co120 : Value).ownBlock) (.slice (some ⟨go28, 0, none⟩) y299.length co28) y303 := (by rw [hw, Ny303.out]; exact HP128.1); clear HP128; have n0_ := Aside0.mk (blk_grown (g := gb276) (o := .cells #[.int .u32 a0_0, .slice (some ad283) l0_1.length c0_1] 26 (0, 0)) (by (with_reducible repeat (first | refine blk_drewN ?_ _ | refine blk_drew ?_ | refine blk_alloc ?_ _)); exact BK276.out) hg (Kd.R_ne HO301.out BK276.out (by decide))); have n1_ := Aside0.mk (Kd.R_after (v := (.slice (some ⟨go28, 0, none⟩) y299.length co28)) (v1 := (.slice (some ⟨go28, 0, none⟩) y299.length co28)) (ok := (fun _ => True)) (by (with_reducible repeat (first | apply Kd.R_alloc | apply Kd.R_drewN | apply Kd.R_drew)); exact HO281.out) hg (.inl rfl)); have n2_ := Aside0.mk (Kd.V_afterv (v := (.slice (some ⟨go28, 0, none⟩) y299.length co28)) (v1 := (.slice (some ⟨go28, 0, none⟩) y299.length co28)) (ok := (fun k_ => k_ ≠ gb276)) (by (with_reducible repeat (first | apply Kd.V_alloc | apply Kd.V_drewN | apply Kd.V_drew)); exact HO291.out) hg (.inl rfl)); have n3_ := Aside0.mk (hp_); have n4_ := Aside0.mk ((by rw [hw]; exact below_set (HB.out) GB28.out : Below w.heap.size w w129)); clear BK276; clear HO281; clear HO291; clear HO301; clear HB; have BK276 := n0_; have HO281 := n1_; have HO291 := n2_; have HO301 := n3_; have HB := n4_; clear n0_ n1_ n2_ n3_ n4_; clear hg hw hp_) | ((with_reducible refine gate_callee (f := 10) rfl ?_); refine goesL_ (some 66) rfl rfl Try.func10 (by kernel_rfl) rfl #[.slice (some ⟨go28, 0, none⟩) y303.length co28] rfl (by (try simp only [List.map_toArray, List.map_cons, List.map_nil]); first | done | (rw [show y303.length = y299.length from (Kd.R_reads' HO301.out).1.symm] <;> rfl) | rfl | (simp only [List.length_drop, List.length_take]; rfl)) ?_; (with_reducible refine (image_Get.calls kj4 _ _ y303 t304 t305 t308 _ ?side1 ?side2 A31.out).mono ?_); (case side1 => repeat (first | exact (Kd.R_reads' HO301.out).2.2 | (with_reducible refine Kd.C_alloc ?_ _) | (with_reducible refine Kd.C_drewN ?_ _) | (with_reducible refine Kd.C_drew ?_))); (case side2 => rw [show y303.length = y299.length from (Kd.R_reads' HO301.out).1.symm]; exact (Kd.R_reads' HO301.out).2.1); rintro e w130 ⟨v306, rfl, ho0, hb⟩; refine ⟨_, rfl, ?_⟩; have n0_ := Aside0.mk (Kd.R_below (by (with_reducible repeat (first | apply Kd.R_alloc | apply Kd.R_drewN | apply Kd.R_drew)); exact HO281.out) hb); have n1_ := Aside0.mk (Kd.V_elder' (by (with_reducible repeat (first | apply Kd.V_alloc | apply Kd.V_drewN | apply Kd.V_drew)); exact HO291.out) (by first | exact Kd.N_base ho0 | exact Kd.N_base (Kd.S_N (Kd.S_bound ho0))) hb); have n2_ := Aside0.mk (Kd.R_below (by (with_reducible repeat (first | apply Kd.R_alloc | apply Kd.R_drewN | apply Kd.R_drew)); exact HO301.out) hb); have n3_ := Aside0.mk (Kd.N_lower (Kd.N_mono (ok' := fun k_ => some k_ ≠ (.slice Ao120 t279.length co120 : Value).ownBlock ∧ some k_ ≠ (.slice (some ⟨go28, 0, none⟩) y299.length co28 : Value).ownBlock ∧ k_ ≠ gb276) (Kd.S_N (Kd.S_bound ho0)) (fun k_ hk_ => ⟨(Kd.fresh' (Kd.R_lt (by (with_reducible repeat (first | apply Kd.R_alloc | apply Kd.R_drewN | apply Kd.R_drew)); exact HO281.out)) k_ hk_.2.1), (Kd.fresh' (Kd.R_lt (by (with_reducible repeat (first | apply Kd.R_alloc | apply Kd.R_drewN | apply Kd.R_drew)); exact HO301.out)) k_ hk_.2.1), (Kd.freshB (g := gb276) (o := .cells #[.int .u32 a0_0, .slice (some ad283) l0_1.length c0_1] 26 (0, 0)) (by (with_reducible repeat (first | refine blk_drewN ?_ _ | refine blk_drew ?_ | refine blk_alloc ?_ _)); exact BK276.out) k_ hk_.2.1)⟩)) (below_size (by with_reducible repeat (first | exact HB.out | apply below_alloc | apply pw_below_drewN | apply below_drew1 | refine below_set ?_ GE276.out)))); have n4_ := Aside0.mk (blk_below (g := gb276) (o := .cells #[.int .u32 a0_0, .slice (some ad283) l0_1.length c0_1] 26 (0, 0)) (by (with_reducible repeat (first | refine blk_drewN ?_ _ | refine blk_drew ?_ | refine blk_alloc ?_ _)); exact BK276.out) hb); have n5_ := Aside0.mk (below_step (by with_reducible repeat (first | exact HB.out | apply below_alloc | apply pw_below_drewN | apply below_drew1 | refine below_set ?_ GE276.out)) hb); clear HO281; clear HO291; clear HO301; clear BK276; clear HB; have HO281 := n0_; have HO291 := n1_; have HO301 := n2_; have HO307 := n3_; have BK276 := n4_; have HB := n5_; clear n0_ n1_ n2_ n3_ n4_ n5_; (try clear hb); (try clear hb2); (try clear hk); (try clear hi); (try clear ho0)) | ((with_reducible refine gate_dst (N := 10) rfl ?_); (try (refine gate_guard (by rfl) ?_; dsimp only)); refine box_event ?hg (N := 10) ?hd (cs := #[.int .u32 0, .slice none 0 0]) (t := 26) ?hr ?_; (case hd => rfl); (case hg => rfl); (case hr => first | (go_simp; done) | (go_simp; rfl)); intro gb309 hg w131 hbox hb; have n0_ := Aside0.mk (Kd.R_below (by (with_reducible repeat (first | apply Kd.R_alloc | apply Kd.R_drewN | apply Kd.R_drew)); exact HO281.out) hb); have n1_ := Aside0.mk (Kd.V_below (Kd.V_elderB (by (with_reducible repeat (first | apply Kd.V_alloc | apply Kd.V_drewN | apply Kd.V_drew)); exact HO291.out) gb309 (Nat.le_of_eq hg.symm)) hb); have n2_ := Aside0.mk (Kd.R_below (by (with_reducible repeat (first | apply Kd.R_alloc | apply Kd.R_drewN | apply Kd.R_drew)); exact HO301.out) hb); have n3_ := Aside0.mk (Kd.N_below (Kd.N_elderB (by (with_reducible repeat (first | apply Kd.N_alloc | apply Kd.N_drewN | apply Kd.N_drew)); exact HO307.out) gb309 (Nat.le_of_eq hg.symm)) hb); have n4_ := Aside0.mk (blk_below (g := gb276) (o := .cells #[.int .u32 a0_0, .slice (some ad283) l0_1.length c0_1] 26 (0, 0)) (by (with_reducible repeat (first | refine blk_drewN ?_ _ | refine blk_drew ?_ | refine blk_alloc ?_ _)); exact BK276.out) hb); have n5_ := Aside0.mk (below_step (by with_reducible repeat (first | exact HB.out | apply below_alloc | apply pw_below_drewN | apply below_drew1 | refine below_set ?_ GE276.out)) hb); have n6_ := Aside0.mk (hbox); have n7_ := Aside0.mk ((by rw [hg]; exact (below_size (by with_reducible repeat (first | exact HB.out | apply below_alloc | apply pw_below_drewN | apply below_drew1 | refine below_set ?_ GE276.out))) : w.heap.size ≤ gb309)); have n8_ := Aside0.mk ((by rw [hg]; exact (below_size (by with_reducible repeat (first | exact HB.out | apply below_alloc | apply pw_below_drewN | apply below_drew1 | refine below_set ?_ GE276.out))) : w.heap.size ≤ gb309)); have n9_ := Aside0.mk ((by rw [hg]; exact Nat.ne_of_lt (blk_lt (g := gb276) (o := .cells #[.int .u32 a0_0, .slice (some ad283) l0_1.length c0_1] 26 (0, 0)) (by (with_reducible repeat (first | refine blk_drewN ?_ _ | refine blk_drew ?_ | refine blk_alloc ?_ _)); exact BK276.out)) : gb276 ≠ gb309)); have n10_ := Aside0.mk ((by rw [hg]; exact Nat.ne_of_gt (blk_lt (g := gb276) (o := .cells #[.int .u32 a0_0, .slice (some ad283) l0_1.length c0_1] 26 (0, 0)) (by (with_reducible repeat (first | refine blk_drewN ?_ _ | refine blk_drew ?_ | refine blk_alloc ?_ _)); exact BK276.out)) : gb309 ≠ gb276)); clear HO281; clear HO291; clear HO301; clear HO307; clear BK276; clear HB; have HO281 := n0_; have HO291 := n1_; have HO301 := n2_; have HO307 := n3_; have BK276 := n4_; have HB := n5_; have BK309 := n6_; have GW309 := n7_; have GE309 := n8_; have NB276_309 := n9_; have NB309_276 := n10_; clear n0_ n1_ n2_ n3_ n4_ n5_ n6_ n7_ n8_ n9_ n10_; clear hb hbox hg; have hnb132 := NB309_276.out; have hnc132 := NB276_309.out; have hcz133_0 : w131.cell? ⟨gb309, 0, none⟩ = some (.int .u32 0) := (blk_cell BK309.out 0).trans rfl; have hcz133_1 : w131.cell? ⟨gb309, 1, none⟩ = some (.slice none 0 0) := (blk_cell BK309.out 1).trans rfl; have hfz133_0 := blk_frozen BK309.out 0; have hfz133_1 := blk_frozen BK309.out 1; obtain ⟨Ao134, co134, eo134⟩ := Kd.N_slice HO307.out; subst eo134))
        have n0_ : Aside0 (Kd.R (Kd.int .u8) 5 ((w131.setCell ⟨gb309, 0, none⟩ (.int .u32 t304)).setCell ⟨gb309, 1, none⟩ (.slice Ao134 t305.length co134)) w.heap.size (fun k_ => some k_ ≠ (.slice (some ⟨go28, 0, none⟩) y299.length co28 : Value).ownBlock) (.slice Ao120 t279.length co120) t279) := ⟨by (with_reducible repeat (first | apply Kd.R_alloc | apply Kd.R_drewN | apply Kd.R_drew)); exact Kd.R_mono (Kd.R_far (p := ⟨gb309, 1, none⟩) (Kd.R_far (p := ⟨gb309, 0, none⟩) (Kd.R_types HO281.out BK309.out (by decide)) (fun _ hk => hk.2) (.int .u32 t304)) (fun _ hk => hk.2) (.slice Ao134 t305.length co134)) (fun _ hk => hk.1.2)⟩
        have n1_ : Aside0 (Kd.V (Kd.int .u8) 5 ((w131.setCell ⟨gb309, 0, none⟩ (.int .u32 t304)).setCell ⟨gb309, 1, none⟩ (.slice Ao134 t305.length co134)) w.heap.size (fun k_ => some k_ ≠ (.slice (some ⟨go28, 0, none⟩) y299.length co28 : Value).ownBlock ∧ some k_ ≠ (.slice Ao134 t305.length co134 : Value).ownBlock ∧ k_ ≠ gb276 ∧ k_ ≠ gb309) (.slice Ao120 y287.length co120) y287) := ⟨by (with_reducible repeat (first | apply Kd.V_alloc | apply Kd.V_drewN | apply Kd.V_drew)); exact Kd.V_mono (Kd.V_far (p := ⟨gb309, 1, none⟩) (Kd.V_far (p := ⟨gb309, 0, none⟩) (Kd.V_mono HO291.out (fun k_ hk => (⟨hk, hk.2⟩ : _ ∧ k_ ≠ gb309))) (fun _ hk => hk.2) (.int .u32 t304)) (fun _ hk => hk.2) (.slice Ao134 t305.length co134)) (fun _ hk => ⟨hk.1.1.1.2, ⟨hk.1.1.2, ⟨hk.1.1.1.1, hk.1.2⟩⟩⟩)⟩
        have n2_ : Aside0 (Kd.R (Kd.int .u8) 5 ((w131.setCell ⟨gb309, 0, none⟩ (.int .u32 t304)).setCell ⟨gb309, 1, none⟩ (.slice Ao134 t305.length co134)) w.heap.size (fun k_ => some k_ ≠ (.slice Ao120 t279.length co120 : Value).ownBlock) (.slice (some ⟨go28, 0, none⟩) y299.length co28) y303) := ⟨by (with_reducible repeat (first | apply Kd.R_alloc | apply Kd.R_drewN | apply Kd.R_drew)); exact Kd.R_mono (Kd.R_far (p := ⟨gb309, 1, none⟩) (Kd.R_far (p := ⟨gb309, 0, none⟩) (Kd.R_types HO301.out BK309.out (by decide)) (fun _ hk => hk.2) (.int .u32 t304)) (fun _ hk => hk.2) (.slice Ao134 t305.length co134)) (fun _ hk => hk.1)⟩
        have n3_ : Aside0 (Kd.N k30 30 ((w131.setCell ⟨gb309, 0, none⟩ (.int .u32 t304)).setCell ⟨gb309, 1, none⟩ (.slice Ao134 t305.length co134)) w.heap.size (fun k_ => some k_ ≠ (.slice Ao120 t279.length co120 : Value).ownBlock ∧ some k_ ≠ (.slice (some ⟨go28, 0, none⟩) y299.length co28 : Value).ownBlock ∧ k_ ≠ gb276 ∧ k_ ≠ gb309) (.slice Ao134 t305.length co134) t305) := ⟨by (with_reducible repeat (first | apply Kd.N_alloc | apply Kd.N_drewN | apply Kd.N_drew)); exact Kd.N_mono (Kd.N_far (p := ⟨gb309, 1, none⟩) (Kd.N_far (p := ⟨gb309, 0, none⟩) (Kd.N_mono HO307.out (fun k_ hk => (⟨hk, hk.2⟩ : _ ∧ k_ ≠ gb309))) (fun _ hk => hk.2) (.int .u32 t304)) (fun _ hk => hk.2) (.slice Ao134 t305.length co134)) (fun _ hk => ⟨hk.1.1.1, ⟨hk.1.1.2.1, ⟨hk.1.1.2.2, hk.1.2⟩⟩⟩)⟩
        have n4_ : Aside0 (((w131.setCell ⟨gb309, 0, none⟩ (.int .u32 t304)).setCell ⟨gb309, 1, none⟩ (.slice Ao134 t305.length co134)).heap[gb276]? = some (.cells #[.int .u32 a0_0, .slice (some ad283) l0_1.length c0_1] 26 (0, 0))) := ⟨by (with_reducible repeat (first | refine blk_drewN ?_ _ | refine blk_drew ?_ | refine blk_alloc ?_ _)); refine blk_far ?_ NB276_309.out _; (with_reducible repeat (first | refine blk_drewN ?_ _ | refine blk_drew ?_ | refine blk_alloc ?_ _)); refine blk_far ?_ NB276_309.out _; (with_reducible repeat (first | refine blk_drewN ?_ _ | refine blk_drew ?_ | refine blk_alloc ?_ _)); exact BK276.out⟩
        have n5_ : Aside0 (((w131.setCell ⟨gb309, 0, none⟩ (.int .u32 t304)).setCell ⟨gb309, 1, none⟩ (.slice Ao134 t305.length co134)).heap[gb309]? = some (.cells #[.int .u32 t304, .slice Ao134 t305.length co134] 26 (0, 0))) := ⟨by (with_reducible repeat (first | refine blk_drewN ?_ _ | refine blk_drew ?_ | refine blk_alloc ?_ _)); refine blk_put (cs := #[.int .u32 t304, .slice none 0 0]) ?_ 1 _ rfl; (with_reducible repeat (first | refine blk_drewN ?_ _ | refine blk_drew ?_ | refine blk_alloc ?_ _)); refine blk_put (cs := #[.int .u32 0, .slice none 0 0]) ?_ 0 _ rfl; (with_reducible repeat (first | refine blk_drewN ?_ _ | refine blk_drew ?_ | refine blk_alloc ?_ _)); exact BK309.out⟩
        have n6_ : Aside0 (Below w.heap.size w ((w131.setCell ⟨gb309, 0, none⟩ (.int .u32 t304)).setCell ⟨gb309, 1, none⟩ (.slice Ao134 t305.length co134))) := ⟨by with_reducible repeat (first | exact HB.out | apply below_alloc | apply pw_below_drewN | apply below_drew1 | refine below_set ?_ GE276.out | refine below_set ?_ GE309.out)⟩
        (try clear HO281); (try clear HO291); (try clear HO301); (try clear HO307); (try clear BK276); (try clear BK309); (try clear HB)
        generalize ((w131.setCell ⟨gb309, 0, none⟩ (.int .u32 t304)).setCell ⟨gb309, 1, none⟩ (.slice Ao134 t305.length co134)) = w135 at n0_ n1_ n2_ n3_ n4_ n5_ n6_ ⊢
        have HO281 := n0_
        have HO291 := n1_
        have HO301 := n2_
        have HO307 := n3_
        have BK276 := n4_
        have BK309 := n5_
        have HB := n6_
        clear n0_ n1_ n2_ n3_ n4_ n5_ n6_
        have n0_ := Aside0.mk (Kd.R_drew HO281.out)
        have n1_ := Aside0.mk (Kd.V_drew HO291.out)
        have n2_ := Aside0.mk (Kd.R_drew HO301.out)
        have n3_ := Aside0.mk (Kd.N_drew HO307.out)
        have n4_ := Aside0.mk (blk_drew BK276.out)
        have n5_ := Aside0.mk (blk_drew BK309.out)
        have n6_ := Aside0.mk (below_drew1 HB.out)
        clear HO281 HO291 HO301 HO307 BK276 BK309 HB
        have HO281 := n0_
        have HO291 := n1_
        have HO301 := n2_
        have HO307 := n3_
        have BK276 := n4_
        have BK309 := n5_
        have HB := n6_
        clear n0_ n1_ n2_ n3_ n4_ n5_ n6_
        refine start_ (n := 25) (S := fun w' => True) (ds := []) #[ff, ff, ff, ff, ff, ff, ff, ff, ff, ff, ff, ff, ff, ff, ff, ff, ff, ff, ff, ff, ff, ff, ff, ff, ff] (by kernel_rfl) rfl rfl trivial (fun hHeld => ?_); refine with_tabW tincturelaw8_ImageMoved.tab13 tincturelaw8_ImageMoved.bits13 (fun HT_ HW_ => ?_)
        generalize w135.drew = w136 at HO281 HO291 HO301 HO307 BK276 BK309 HB hHeld ⊢
        refine pure_ (i := 0) (N := some 69) (v := ?_) (a' := ?_) #[tt, ff, ff, ff, ff, ff, ff, ff, ff, ff, ff, ff, ff, ff, ff, ff, ff, ff, ff, ff, ff, ff, ff, ff, ff] rfl rfl (any_of HT_.out (by kernel_rfl)) (fun _ _ _ h => h) (Or.inl ⟨by rfl, ?_⟩) ?_ ?_
        rotate_left
        · intro w'
          go_simp
          with_reducible rfl
        rotate_left
        · simp only [Act.put, List.setIfInBounds_toArray, List.set_cons_zero, List.set_cons_succ, i64_w, i32_w]
          rfl
        refine pure_ (i := 1) (N := some 70) (v := ?_) (a' := ?_) #[tt, tt, ff, ff, ff, ff, ff, ff, ff, ff, ff, ff, ff, ff, ff, ff, ff, ff, ff, ff, ff, ff, ff, ff, ff] rfl rfl (any_of HT_.out (by kernel_rfl)) (fun _ _ _ h => h) (Or.inl ⟨by rfl, ?_⟩) ?_ ?_
        rotate_left
        · intro w'
          go_simp
          with_reducible rfl
        rotate_left
        · simp only [Act.put, List.setIfInBounds_toArray, List.set_cons_zero, List.set_cons_succ, i64_w, i32_w]
          rfl
        refine pure_ (i := 2) (N := some 71) (v := ?_) (a' := ?_) #[tt, tt, tt, ff, ff, ff, ff, ff, ff, ff, ff, ff, ff, ff, ff, ff, ff, ff, ff, ff, ff, ff, ff, ff, ff] rfl rfl (any_of HT_.out (by kernel_rfl)) (fun _ _ _ h => h) (Or.inl ⟨by rfl, ?_⟩) ?_ ?_
        rotate_left
        · intro w'
          go_simp
          with_reducible rfl
        rotate_left
        · simp only [Act.put, List.setIfInBounds_toArray, List.set_cons_zero, List.set_cons_succ, i64_w, i32_w]
          rfl
        refine pure_ (i := 3) (N := some 72) (v := ?_) (a' := ?_) #[tt, tt, tt, tt, ff, ff, ff, ff, ff, ff, ff, ff, ff, ff, ff, ff, ff, ff, ff, ff, ff, ff, ff, ff, ff] rfl rfl (any_of HT_.out (by kernel_rfl)) (fun _ _ _ h => h) (Or.inl ⟨by rfl, ?_⟩) ?_ ?_
        rotate_left
        · intro w'
          go_simp
          with_reducible rfl
        rotate_left
        · simp only [Act.put, List.setIfInBounds_toArray, List.set_cons_zero, List.set_cons_succ, i64_w, i32_w]
          rfl
        refine pure_ (i := 4) (N := some 73) (v := ?_) (a' := ?_) #[tt, tt, tt, tt, tt, ff, ff, ff, ff, ff, ff, ff, ff, ff, ff, ff, ff, ff, ff, ff, ff, ff, ff, ff, ff] rfl rfl (any_of HT_.out (by kernel_rfl)) (fun _ _ _ h => h) (Or.inl ⟨by rfl, ?_⟩) ?_ ?_
        rotate_left
        · intro w'
          go_simp
          with_reducible rfl
        rotate_left
        · simp only [Act.put, List.setIfInBounds_toArray, List.set_cons_zero, List.set_cons_succ, i64_w, i32_w]
          rfl
        refine pure_ (i := 5) (N := some 74) (v := ?_) (a' := ?_) #[tt, tt, tt, tt, tt, tt, ff, ff, ff, ff, ff, ff, ff, ff, ff, ff, ff, ff, ff, ff, ff, ff, ff, ff, ff] rfl rfl (any_of HT_.out (by kernel_rfl)) (fun _ _ _ h => h) (Or.inl ⟨by rfl, ?_⟩) ?_ ?_
        rotate_left
        · intro w'
          go_simp
          with_reducible rfl
        rotate_left
        · simp only [Act.put, List.setIfInBounds_toArray, List.set_cons_zero, List.set_cons_succ, i64_w, i32_w]
          rfl
        refine pure_ (i := 6) (N := some 75) (v := ?_) (a' := ?_) #[tt, tt, tt, tt, tt, tt, tt, ff, ff, ff, ff, ff, ff, ff, ff, ff, ff, ff, ff, ff, ff, ff, ff, ff, ff] rfl rfl (any_of HT_.out (by kernel_rfl)) (fun _ _ _ h => h) (Or.inl ⟨by rfl, ?_⟩) ?_ ?_
        rotate_left
        · intro w'
          go_simp
          with_reducible rfl
        rotate_left
        · simp only [Act.put, List.setIfInBounds_toArray, List.set_cons_zero, List.set_cons_succ, i64_w, i32_w]
          rfl
        refine pure_ (i := 7) (N := some 76) (v := undef) (a' := ?_) #[tt, tt, tt, tt, tt, tt, tt, tt, ff, ff, ff, ff, ff, ff, ff, ff, ff, ff, ff, ff, ff, ff, ff, ff, ff] rfl rfl (any_of HT_.out (by kernel_rfl)) (fun _ _ _ h => h) (Or.inr ⟨by rfl, rfl⟩) ?_ ?_
        rotate_left
        · simp only [Act.put, List.setIfInBounds_toArray, List.set_cons_zero, List.set_cons_succ, i64_w, i32_w]
          rfl
        refine pure_ (i := 8) (N := some 77) (v := undef) (a' := ?_) #[tt, tt, tt, tt, tt, tt, tt, tt, tt, ff, ff, ff, ff, ff, ff, ff, ff, ff, ff, ff, ff, ff, ff, ff, ff] rfl rfl (any_of HT_.out (by kernel_rfl)) (fun _ _ _ h => h) (Or.inr ⟨by rfl, rfl⟩) ?_ ?_
        rotate_left
        · simp only [Act.put, List.setIfInBounds_toArray, List.set_cons_zero, List.set_cons_succ, i64_w, i32_w]
          rfl
        refine pure_ (i := 9) (N := some 78) (v := undef) (a' := ?_) #[tt, tt, tt, tt, tt, tt, tt, tt, tt, tt, ff, ff, ff, ff, ff, ff, ff, ff, ff, ff, ff, ff, ff, ff, ff] rfl rfl (any_of HT_.out (by kernel_rfl)) (fun _ _ _ h => h) (Or.inr ⟨by rfl, rfl⟩) ?_ ?_
        rotate_left
        · simp only [Act.put, List.setIfInBounds_toArray, List.set_cons_zero, List.set_cons_succ, i64_w, i32_w]
          rfl
        refine pure_ (i := 10) (N := some 79) (v := undef) (a' := ?_) #[tt, tt, tt, tt, tt, tt, tt, tt, tt, tt, tt, ff, ff, ff, ff, ff, ff, ff, ff, ff, ff, ff, ff, ff, ff] rfl rfl (any_of HT_.out (by kernel_rfl)) (fun _ _ _ h => h) (Or.inr ⟨by rfl, rfl⟩) ?_ ?_
        rotate_left
        · simp only [Act.put, List.setIfInBounds_toArray, List.set_cons_zero, List.set_cons_succ, i64_w, i32_w]
          rfl
        refine pure_ (i := 11) (N := some 80) (v := undef) (a' := ?_) #[tt, tt, tt, tt, tt, tt, tt, tt, tt, tt, tt, tt, ff, ff, ff, ff, ff, ff, ff, ff, ff, ff, ff, ff, ff] rfl rfl (any_of HT_.out (by kernel_rfl)) (fun _ _ _ h => h) (Or.inr ⟨by rfl, rfl⟩) ?_ ?_
        rotate_left
        · simp only [Act.put, List.setIfInBounds_toArray, List.set_cons_zero, List.set_cons_succ, i64_w, i32_w]
          rfl
        refine pure_ (i := 12) (N := some 81) (v := ?_) (a' := ?_) #[tt, tt, tt, tt, tt, tt, tt, tt, tt, tt, tt, tt, tt, ff, ff, ff, ff, ff, ff, ff, ff, ff, ff, ff, ff] rfl rfl (any_of HT_.out (by kernel_rfl)) (fun _ _ _ h => h) (Or.inl ⟨by rfl, ?_⟩) ?_ ?_
        rotate_left
        · intro w'
          go_simp
          with_reducible rfl
        rotate_left
        · simp only [Act.put, List.setIfInBounds_toArray, List.set_cons_zero, List.set_cons_succ, i64_w, i32_w]
          rfl
        refine pure_ (i := 13) (N := some 82) (v := ?_) (a' := ?_) #[tt, tt, tt, tt, tt, tt, tt, tt, tt, tt, tt, tt, tt, tt, ff, ff, ff, ff, ff, ff, ff, ff, ff, ff, ff] rfl rfl (any_of HT_.out (by kernel_rfl)) (fun _ _ _ h => h) (Or.inl ⟨by rfl, ?_⟩) ?_ ?_
        rotate_left
        · intro w'
          go_simp
          with_reducible rfl
        rotate_left
        · simp only [Act.put, List.setIfInBounds_toArray, List.set_cons_zero, List.set_cons_succ, i64_w, i32_w]
          rfl
        refine pure_ (i := 14) (N := some 83) (v := undef) (a' := ?_) #[tt, tt, tt, tt, tt, tt, tt, tt, tt, tt, tt, tt, tt, tt, tt, ff, ff, ff, ff, ff, ff, ff, ff, ff, ff] rfl rfl (any_of HT_.out (by kernel_rfl)) (fun _ _ _ h => h) (Or.inr ⟨by rfl, rfl⟩) ?_ ?_
        rotate_left
        · simp only [Act.put, List.setIfInBounds_toArray, List.set_cons_zero, List.set_cons_succ, i64_w, i32_w]
          rfl
        refine pure_ (i := 15) (N := some 84) (v := undef) (a' := ?_) #[tt, tt, tt, tt, tt, tt, tt, tt, tt, tt, tt, tt, tt, tt, tt, tt, ff, ff, ff, ff, ff, ff, ff, ff, ff] rfl rfl (any_of HT_.out (by kernel_rfl)) (fun _ _ _ h => h) (Or.inr ⟨by rfl, rfl⟩) ?_ ?_
        rotate_left
        · simp only [Act.put, List.setIfInBounds_toArray, List.set_cons_zero, List.set_cons_succ, i64_w, i32_w]
          rfl
        refine pure_ (i := 16) (N := some 85) (v := undef) (a' := ?_) #[tt, tt, tt, tt, tt, tt, tt, tt, tt, tt, tt, tt, tt, tt, tt, tt, tt, ff, ff, ff, ff, ff, ff, ff, ff] rfl rfl (any_of HT_.out (by kernel_rfl)) (fun _ _ _ h => h) (Or.inr ⟨by rfl, rfl⟩) ?_ ?_
        rotate_left
        · simp only [Act.put, List.setIfInBounds_toArray, List.set_cons_zero, List.set_cons_succ, i64_w, i32_w]
          rfl
        refine pure_ (i := 17) (N := some 86) (v := undef) (a' := ?_) #[tt, tt, tt, tt, tt, tt, tt, tt, tt, tt, tt, tt, tt, tt, tt, tt, tt, tt, ff, ff, ff, ff, ff, ff, ff] rfl rfl (any_of HT_.out (by kernel_rfl)) (fun _ _ _ h => h) (Or.inr ⟨by rfl, rfl⟩) ?_ ?_
        rotate_left
        · simp only [Act.put, List.setIfInBounds_toArray, List.set_cons_zero, List.set_cons_succ, i64_w, i32_w]
          rfl
        refine pure_ (i := 18) (N := some 87) (v := undef) (a' := ?_) #[tt, tt, tt, tt, tt, tt, tt, tt, tt, tt, tt, tt, tt, tt, tt, tt, tt, tt, tt, ff, ff, ff, ff, ff, ff] rfl rfl (any_of HT_.out (by kernel_rfl)) (fun _ _ _ h => h) (Or.inr ⟨by rfl, rfl⟩) ?_ ?_
        rotate_left
        · simp only [Act.put, List.setIfInBounds_toArray, List.set_cons_zero, List.set_cons_succ, i64_w, i32_w]
          rfl
        refine pure_ (i := 19) (N := some 88) (v := undef) (a' := ?_) #[tt, tt, tt, tt, tt, tt, tt, tt, tt, tt, tt, tt, tt, tt, tt, tt, tt, tt, tt, tt, ff, ff, ff, ff, ff] rfl rfl (any_of HT_.out (by kernel_rfl)) (fun _ _ _ h => h) (Or.inr ⟨by rfl, rfl⟩) ?_ ?_
        rotate_left
        · simp only [Act.put, List.setIfInBounds_toArray, List.set_cons_zero, List.set_cons_succ, i64_w, i32_w]
          rfl
        refine pure_ (i := 20) (N := some 89) (v := undef) (a' := ?_) #[tt, tt, tt, tt, tt, tt, tt, tt, tt, tt, tt, tt, tt, tt, tt, tt, tt, tt, tt, tt, tt, ff, ff, ff, ff] rfl rfl (any_of HT_.out (by kernel_rfl)) (fun _ _ _ h => h) (Or.inr ⟨by rfl, rfl⟩) ?_ ?_
        rotate_left
        · simp only [Act.put, List.setIfInBounds_toArray, List.set_cons_zero, List.set_cons_succ, i64_w, i32_w]
          rfl
        refine pure_ (i := 21) (N := some 90) (v := undef) (a' := ?_) #[tt, tt, tt, tt, tt, tt, tt, tt, tt, tt, tt, tt, tt, tt, tt, tt, tt, tt, tt, tt, tt, tt, ff, ff, ff] rfl rfl (any_of HT_.out (by kernel_rfl)) (fun _ _ _ h => h) (Or.inr ⟨by rfl, rfl⟩) ?_ ?_
        rotate_left
        · simp only [Act.put, List.setIfInBounds_toArray, List.set_cons_zero, List.set_cons_succ, i64_w, i32_w]
          rfl
        refine pure_ (i := 22) (N := some 91) (v := ?_) (a' := ?_) #[tt, tt, tt, tt, tt, tt, tt, tt, tt, tt, tt, tt, tt, tt, tt, tt, tt, tt, tt, tt, tt, tt, tt, ff, ff] rfl rfl (any_of HT_.out (by kernel_rfl)) (fun _ _ _ h => h) (Or.inl ⟨by rfl, ?_⟩) ?_ ?_
        rotate_left
        · intro w'
          go_simp
          with_reducible rfl
        rotate_left
        · simp only [Act.put, List.setIfInBounds_toArray, List.set_cons_zero, List.set_cons_succ, i64_w, i32_w]
          rfl
        refine pure_ (i := 23) (N := some 92) (v := ?_) (a' := ?_) #[tt, tt, tt, tt, tt, tt, tt, tt, tt, tt, tt, tt, tt, tt, tt, tt, tt, tt, tt, tt, tt, tt, tt, tt, ff] rfl rfl (any_of HT_.out (by kernel_rfl)) (fun _ _ _ h => h) (Or.inl ⟨by rfl, ?_⟩) ?_ ?_
        rotate_left
        · intro w'
          go_simp
          with_reducible rfl
        rotate_left
        · simp only [Act.put, List.setIfInBounds_toArray, List.set_cons_zero, List.set_cons_succ, i64_w, i32_w]
          rfl
        refine pure_ (i := 24) (N := some 4) (v := ?_) (a' := ?_) #[tt, tt, tt, tt, tt, tt, tt, tt, tt, tt, tt, tt, tt, tt, tt, tt, tt, tt, tt, tt, tt, tt, tt, tt, tt] rfl rfl (any_of HT_.out (by kernel_rfl)) (fun _ _ _ h => h) (Or.inl ⟨by rfl, ?_⟩) ?_ ?_
        rotate_left
        · intro w'
          go_simp
          with_reducible rfl
        rotate_left
        · simp only [Act.put, List.setIfInBounds_toArray, List.set_cons_zero, List.set_cons_succ, i64_w, i32_w]
          rfl
        refine done_ (done_of HT_.out (by kernel_rfl)) ?_
        try go_wp2
        go_ret
        exact ⟨by first | rfl | (simp [errW_none, errW_some] <;> rfl) | (simp [*, errW_none, errW_some] <;> rfl), by with_reducible repeat (first | exact HB.out | apply below_alloc | apply pw_below_drewN | apply below_drew1 | refine below_set ?_ GE276.out | refine below_set ?_ GE309.out)⟩
      rw [if_pos c55] at H
      have c55b0 : (t308 == 0) = true := beq_iff_eq.mpr c55
      have c55b1 : (t308 != 0) = false := bne_eq_false_iff_eq.mpr c55
      clear c55
      replace H := Option.bind_eq_some_iff.mp H
      obtain ⟨⟨t310, t311⟩, A560, H⟩ := H
      replace H : ((tincturelaw8_img.f kj4 a0_0 l0_1).bind fun bt314 => ((tincturelaw8_sameImage.f kj4 t310 t311 bt314.1 bt314.2).bind fun t318 => (if t318 = true then (if 0 < (t305.length : Int) then (some ((((rd_T30 t305 0).f3).length : Int) == (((rd_T30 l0_1 0).f3).length : Int))) else (none)) else (some false)))) = some r := H
      have A56 := Aside0.mk A560
      clear A560
      replace H := Option.bind_eq_some_iff.mp H
      obtain ⟨⟨t314, t315⟩, A570, H⟩ := H
      replace H : ((tincturelaw8_sameImage.f kj4 t310 t311 t314 t315).bind fun t318 => (if t318 = true then (if 0 < (t305.length : Int) then (some ((((rd_T30 t305 0).f3).length : Int) == (((rd_T30 l0_1 0).f3).length : Int))) else (none)) else (some false))) = some r := H
      have A57 := Aside0.mk A570
      clear A570
      replace H := Option.bind_eq_some_iff.mp H
      obtain ⟨t318, A580, H⟩ := H
      replace H : (if t318 = true then (if 0 < (t305.length : Int) then (some ((((rd_T30 t305 0).f3).length : Int) == (((rd_T30 l0_1 0).f3).length : Int))) else (none)) else (some false)) = some r := H
      have A58 := Aside0.mk A580
      clear A580
      by_cases c59 : t318 = true
      rotate_left
      · replace c59 := Bool.eq_false_iff.mpr c59
        subst c59
        have H1 : (some false) = some r := by rw [if_neg (show ¬ (false = true) by decide)] at H; exact H
        clear H
        have H := H1
        clear H1
        obtain rfl := Option.some.inj H
        have hcz88_0 : wc.cell? ⟨gb276, 0, none⟩ = some (.int .u32 a0_0) := (blk_cell BK276.out 0).trans rfl
        have hcz88_1 : wc.cell? ⟨gb276, 1, none⟩ = some (.slice A0_1 l0_1.length c0_1) := (blk_cell BK276.out 1).trans rfl
        have hfz88_0 := blk_frozen BK276.out 0
        have hfz88_1 := blk_frozen BK276.out 1
        try go_wp2_with (first | ((with_reducible refine gate_callee (f := 11) rfl ?_); refine goesL_ (some 29) rfl rfl Try.func11 (by kernel_rfl) rfl #[.agg #[.int .u32 a0_0, .slice A0_1 l0_1.length c0_1]] rfl (by (try simp only [List.map_toArray, List.map_cons, List.map_nil]); first | done | rfl | (simp only [List.length_drop, List.length_take]; rfl)) ?_; (with_reducible refine (image_Put.calls kj4 a0_0 _ _ l0_1 t279 t282 _ ?side1 ?side2 A20.out).mono ?_); (case side1 => repeat (first | exact (Kd.C_below HR0_1.out HB.out) | (with_reducible refine Kd.C_alloc ?_ _) | (with_reducible refine Kd.C_drewN ?_ _) | (with_reducible refine Kd.C_drew ?_))); (case side2 => exact HC0_1.out); rintro e w89 ⟨v280, rfl, ho0, hb⟩; refine ⟨_, rfl, ?_⟩; have n0_ := Aside0.mk (Kd.R_lower ho0 (below_size (by with_reducible repeat (first | exact HB.out | apply below_alloc | apply pw_below_drewN | apply below_drew1 | refine below_set ?_ GE276.out)))); have n1_ := Aside0.mk (blk_below (g := gb276) (o := .cells #[.int .u32 a0_0, .slice A0_1 l0_1.length c0_1] 26 (0, 0)) (by (with_reducible repeat (first | refine blk_drewN ?_ _ | refine blk_drew ?_ | refine blk_alloc ?_ _)); exact BK276.out) hb); have n2_ := Aside0.mk (below_step (by with_reducible repeat (first | exact HB.out | apply below_alloc | apply pw_below_drewN | apply below_drew1 | refine below_set ?_ GE276.out)) hb); clear BK276; clear HB; have HO281 := n0_; have BK276 := n1_; have HB := n2_; clear n0_ n1_ n2_; (try clear hb); (try clear hb2); (try clear hk); (try clear hi); (try clear ho0); have hcz90_0 : w89.cell? ⟨gb276, 0, none⟩ = some (.int .u32 a0_0) := (blk_cell BK276.out 0).trans rfl; have hcz90_1 : w89.cell? ⟨gb276, 1, none⟩ = some (.slice A0_1 l0_1.length c0_1) := (blk_cell BK276.out 1).trans rfl; have hfz90_0 := blk_frozen BK276.out 0; have hfz90_1 := blk_frozen BK276.out 1; have p283 : 0 ≤ (0 : Int) := (by omega); have q283 : 0 < (l0_1.length : Int) := of_decide_eq_true (by assumption); obtain ⟨ad283, A283_3, c283_3, e283, hx283_0, hx283_1, hx283_2, hx283_3, hl283_3, hi283_3⟩ := at_T30 HR0_1.out 0 p283 q283; cases e283; have qi283 : (0 < l0_1.length) = True := eq_true (by omega); (try rw [show ((0 : Int)).toNat = 0 from rfl] at hx283_0); (try rw [show 0 * 4 = 0 from rfl] at hx283_0); (try rw [Addr.add_zero'] at hx283_0); (try rw [show ((0 : Int)).toNat = 0 from rfl] at hx283_1); (try rw [show 0 * 4 = 0 from rfl] at hx283_1); (try rw [Addr.add_zero'] at hx283_1); (try rw [show ((0 : Int)).toNat = 0 from rfl] at hx283_2); (try rw [show 0 * 4 = 0 from rfl] at hx283_2); (try rw [Addr.add_zero'] at hx283_2); (try rw [show ((0 : Int)).toNat = 0 from rfl] at hx283_3); (try rw [show 0 * 4 = 0 from rfl] at hx283_3); (try rw [Addr.add_zero'] at hx283_3); replace hx283_0 := (HB.out.cell (World.block_lt_of_cell? w _ hx283_0)).trans hx283_0; replace hx283_1 := (HB.out.cell (World.block_lt_of_cell? w _ hx283_1)).trans hx283_1; replace hx283_2 := (HB.out.cell (World.block_lt_of_cell? w _ hx283_2)).trans hx283_2; replace hx283_3 := (HB.out.cell (World.block_lt_of_cell? w _ hx283_3)).trans hx283_3; have HR283_3 := Aside0.mk hi283_3; have HC283_3 := Aside0.mk hl283_3; clear hi283_3 hl283_3; replace p283 := eq_true p283; replace q283 := eq_true q283))
        have n0_ := Aside0.mk (Kd.R_drew HO281.out)
        have n1_ := Aside0.mk (blk_drew BK276.out)
        have n2_ := Aside0.mk (below_drew1 HB.out)
        clear HO281 BK276 HB
        have HO281 := n0_
        have BK276 := n1_
        have HB := n2_
        clear n0_ n1_ n2_
        obtain ⟨Ao93, co93, eo93⟩ := Kd.R_slice HO281.out
        (first | subst eo93 | (injection eo93 with f1_ f2_ f3_; have f4_ := f1_.symm; have f5_ := f3_.symm; clear f1_ f2_ f3_; subst f4_; subst f5_))
        have q92 : (84 : Int) ≤ ((t279.length : Int) : Int) := of_decide_eq_true (by assumption)
        obtain ⟨i092, hi092, _, hsz92, _⟩ := info_parts info5
        have hroom92 : t279.length ≤ co93 := (Kd.R_reads' HO281.out).2.1
        have hC92 : Kd.F (Kd.int .u8) _ _ Ao93 t279.length t279 := (Kd.V_at (base := w.heap.size) (Kd.R_V (Kd.R_types (HO281.out) BK276.out (by decide)))).2.2
        have hcut92 := cut_to (P := Try.prog) 28 5 .i64 Try.underlying28 hi092 Ao93 t279.length co93 84 (by omega) q92 hroom92
        have hr92 := Kd.F_take (m := 84) hC92 (by omega)
        have hy92 : y287.length = (84 : Int).toNat := (by rw [Ny287.out, List.length_take]; omega)
        rw [← Ny287.out] at hr92
        rw [← hy92] at hcut92
        have HO291 := Aside0.mk (show Kd.V (Kd.int .u8) 5 _ w.heap.size _ (.slice Ao93 y287.length co93) y287 from Kd.V_mk (by omega) hr92)
        have HC291 := Aside0.mk (show y287.length ≤ co93 from by omega)
        clear hr92 hC92 hroom92 hi092 hsz92
        have KY92 := Aside0.mk hy92
        clear hy92
        replace q92 := eq_true q92
        have p298 : 0 ≤ (0 : Int) := (by omega)
        have q298 : 0 < (l0_1.length : Int) := of_decide_eq_true (by assumption)
        obtain ⟨ad298, A298_3, c298_3, e298, hx298_0, hx298_1, hx298_2, hx298_3, hl298_3, hi298_3⟩ := at_T30 HR0_1.out 0 p298 q298
        have hw298_3 := hx298_3
        (try rw [show ((0 : Int)).toNat = 0 from rfl] at hw298_3)
        (try rw [show 0 * 4 = 0 from rfl] at hw298_3)
        (try rw [Addr.add_zero'] at hw298_3)
        have hw298_2 := hx298_2
        (try rw [show ((0 : Int)).toNat = 0 from rfl] at hw298_2)
        (try rw [show 0 * 4 = 0 from rfl] at hw298_2)
        (try rw [Addr.add_zero'] at hw298_2)
        have hw298_1 := hx298_1
        (try rw [show ((0 : Int)).toNat = 0 from rfl] at hw298_1)
        (try rw [show 0 * 4 = 0 from rfl] at hw298_1)
        (try rw [Addr.add_zero'] at hw298_1)
        have hw298_0 := hx298_0
        (try rw [show ((0 : Int)).toNat = 0 from rfl] at hw298_0)
        (try rw [show 0 * 4 = 0 from rfl] at hw298_0)
        (try rw [Addr.add_zero'] at hw298_0)
        obtain rfl : ad283 = ad298 := (by injection e298)
        have qi298 : (0 < l0_1.length) = True := eq_true (by omega)
        (try rw [show ((0 : Int)).toNat = 0 from rfl] at hx298_0)
        (try rw [show 0 * 4 = 0 from rfl] at hx298_0)
        (try rw [Addr.add_zero'] at hx298_0)
        (try rw [show ((0 : Int)).toNat = 0 from rfl] at hx298_1)
        (try rw [show 0 * 4 = 0 from rfl] at hx298_1)
        (try rw [Addr.add_zero'] at hx298_1)
        (try rw [show ((0 : Int)).toNat = 0 from rfl] at hx298_2)
        (try rw [show 0 * 4 = 0 from rfl] at hx298_2)
        (try rw [Addr.add_zero'] at hx298_2)
        (try rw [show ((0 : Int)).toNat = 0 from rfl] at hx298_3)
        (try rw [show 0 * 4 = 0 from rfl] at hx298_3)
        (try rw [Addr.add_zero'] at hx298_3)
        replace hx298_0 := (HB.out.cell (World.block_lt_of_cell? w _ hx298_0)).trans hx298_0
        replace hx298_1 := (HB.out.cell (World.block_lt_of_cell? w _ hx298_1)).trans hx298_1
        replace hx298_2 := (HB.out.cell (World.block_lt_of_cell? w _ hx298_2)).trans hx298_2
        replace hx298_3 := (HB.out.cell (World.block_lt_of_cell? w _ hx298_3)).trans hx298_3
        have HR298_3 := Aside0.mk hi298_3
        have HC298_3 := Aside0.mk hl298_3
        clear hi298_3 hl298_3
        replace p298 := eq_true p298
        replace q298 := eq_true q298
        refine start_ (n := 13) (S := fun w' => w'.cell? ⟨gb276, 0, none⟩ = some (.int .u32 a0_0) ∧ w'.cell? ⟨gb276, 1, none⟩ = some (.slice (some ad283) l0_1.length c0_1) ∧ w'.cell? ad283 = some (.int .u32 ((rd_T30 l0_1 0).f0)) ∧ w'.cell? ⟨ad283.block, ad283.off + 1, none⟩ = some (.int .u32 ((rd_T30 l0_1 0).f1)) ∧ w'.cell? ⟨ad283.block, ad283.off + 2, none⟩ = some (.int .i64 ((rd_T30 l0_1 0).f2)) ∧ w'.cell? ⟨ad283.block, ad283.off + 3, none⟩ = some (.slice A298_3 ((rd_T30 l0_1 0).f3).length c298_3)) (ds := []) #[ff, ff, ff, ff, ff, ff, ff, ff, ff, ff, ff, ff, ff] (by kernel_rfl) rfl rfl ⟨(blk_cell BK276.out 0).trans rfl, (blk_cell BK276.out 1).trans rfl, ((HB.out.cell (World.block_lt_of_cell? w _ hw298_0)).trans hw298_0), ((HB.out.cell (World.block_lt_of_cell? w _ hw298_1)).trans hw298_1), ((HB.out.cell (World.block_lt_of_cell? w _ hw298_2)).trans hw298_2), ((HB.out.cell (World.block_lt_of_cell? w _ hw298_3)).trans hw298_3)⟩ (fun hHeld => ?_); refine with_tabW tincturelaw8_ImageMoved.tab9 tincturelaw8_ImageMoved.bits9 (fun HT_ HW_ => ?_)
        generalize w89.drew = w91 at HO281 BK276 HB HO291 HR298_3 hx298_0 hx298_1 hx298_2 hx298_3 hHeld ⊢
        refine pure_ (i := 1) (N := some 41) (v := ?_) (a' := ?_) #[ff, tt, ff, ff, ff, ff, ff, ff, ff, ff, ff, ff, ff] rfl rfl (any_of HT_.out (by kernel_rfl)) (fun _ _ _ h => h) (Or.inl ⟨by rfl, ?_⟩) ?_ ?_
        rotate_left
        · intro w'
          go_simp
          with_reducible rfl
        rotate_left
        · simp only [Act.put, List.setIfInBounds_toArray, List.set_cons_zero, List.set_cons_succ, i64_w, i32_w]
          rfl
        refine pure_ (i := 2) (N := some 42) (v := ?_) (a' := ?_) #[ff, tt, tt, ff, ff, ff, ff, ff, ff, ff, ff, ff, ff] rfl rfl (any_of HT_.out (by kernel_rfl)) (fun _ _ _ h => h) (Or.inl ⟨by rfl, ?_⟩) ?_ ?_
        rotate_left
        · intro w'
          go_simp
          with_reducible rfl
        rotate_left
        · simp only [Act.put, List.setIfInBounds_toArray, List.set_cons_zero, List.set_cons_succ, i64_w, i32_w]
          rfl
        refine pure_ (i := 4) (N := some 44) (v := ?_) (a' := ?_) #[ff, tt, tt, ff, tt, ff, ff, ff, ff, ff, ff, ff, ff] rfl rfl (any_of HT_.out (by kernel_rfl)) (fun _ _ _ h => h) (Or.inl ⟨by rfl, ?_⟩) ?_ ?_
        rotate_left
        · intro w'
          go_simp
          with_reducible rfl
        rotate_left
        · simp only [Act.put, List.setIfInBounds_toArray, List.set_cons_zero, List.set_cons_succ, i64_w, i32_w]
          rfl
        refine pure_ (i := 6) (N := some 46) (v := ?_) (a' := ?_) #[ff, tt, tt, ff, tt, ff, tt, ff, ff, ff, ff, ff, ff] rfl rfl (any_of HT_.out (by kernel_rfl)) (fun _ _ _ h => h) (Or.inl ⟨by rfl, ?_⟩) ?_ ?_
        rotate_left
        · intro w'
          go_simp
          with_reducible rfl
        rotate_left
        · simp only [Act.put, List.setIfInBounds_toArray, List.set_cons_zero, List.set_cons_succ, i64_w, i32_w]
          rfl
        refine take_ (i := 7) (N := some 47) (v := ?_) (a' := ?_) #[ff, tt, tt, ff, tt, ff, tt, tt, ff, ff, ff, ff, ff] rfl rfl (take_ofW HT_.out HW_.out (by kernel_rfl)) (fun _ _ _ h => h) (Or.inl ⟨by rfl, ?_⟩) hHeld ?_ ?_
        rotate_left
        · rintro w' ⟨s0, s1, s2, s3, s4, s5⟩
          go_simp
          with_reducible rfl
        rotate_left
        · simp only [Act.put, List.setIfInBounds_toArray, List.set_cons_zero, List.set_cons_succ, i64_w, i32_w]
          rfl
        refine pure_ (i := 8) (N := some 48) (v := ?_) (a' := ?_) #[ff, tt, tt, ff, tt, ff, tt, tt, tt, ff, ff, ff, ff] rfl rfl (any_of HT_.out (by kernel_rfl)) (fun _ _ _ h => h) (Or.inl ⟨by rfl, ?_⟩) ?_ ?_
        rotate_left
        · intro w'
          go_simp
          with_reducible rfl
        rotate_left
        · simp only [Act.put, List.setIfInBounds_toArray, List.set_cons_zero, List.set_cons_succ, i64_w, i32_w]
          rfl
        refine pure_ (i := 9) (N := some 49) (v := ?_) (a' := ?_) #[ff, tt, tt, ff, tt, ff, tt, tt, tt, tt, ff, ff, ff] rfl rfl (any_of HT_.out (by kernel_rfl)) (fun _ _ _ h => h) (Or.inl ⟨by rfl, ?_⟩) ?_ ?_
        rotate_left
        · intro w'
          go_simp
          with_reducible rfl
        rotate_left
        · simp only [Act.put, List.setIfInBounds_toArray, List.set_cons_zero, List.set_cons_succ, i64_w, i32_w]
          rfl
        refine take_ (i := 10) (N := some 50) (v := ?_) (a' := ?_) #[ff, tt, tt, ff, tt, ff, tt, tt, tt, tt, tt, ff, ff] rfl rfl (take_ofW HT_.out HW_.out (by kernel_rfl)) (fun _ _ _ h => h) (Or.inl ⟨by rfl, ?_⟩) hHeld ?_ ?_
        rotate_left
        · rintro w' ⟨s0, s1, s2, s3, s4, s5⟩
          go_simp
          with_reducible rfl
        rotate_left
        · simp only [Act.put, List.setIfInBounds_toArray, List.set_cons_zero, List.set_cons_succ, i64_w, i32_w]
          rfl
        refine one_ (i := 0) (N := some 40) #[tt, tt, tt, ff, tt, ff, tt, tt, tt, tt, tt, ff, ff] rfl rfl (one_of HT_.out (by kernel_rfl)) (by decide) (fun K hK => ?_)
        refine Kd.R_lit_step (Kd.int .u8) _ 5 ?hg (N := 40) ?hd (xs := ([] : List Int)) (inner := []) (ok := fun _ => True) (okp := fun _ => True) ?hr ?hp (fun _ hk => hk) trivial (Below.refl _ _) (Nat.le_refl _) (by simp) ?_; (case hd => rfl); (case hg => rfl); (case hr => first | (go_simp; done) | (go_simp; rfl)); (case hp => exact (Reps.none _ _))
        intro v285 w94 ho95 hb hg_ hnew_
        clear hg_ hnew_
        (first | rw [← Ny284.out] at ho95 | (simp only [Int.reduceToNat] at ho95; rw [← Ny284.out] at ho95))
        have n0_ := Aside0.mk (Kd.R_elder' (by (with_reducible repeat (first | apply Kd.R_alloc | apply Kd.R_drewN | apply Kd.R_drew)); exact HO281.out) (Kd.R_base ho95) hb)
        have n1_ := Aside0.mk (Kd.V_elder' (by (with_reducible repeat (first | apply Kd.V_alloc | apply Kd.V_drewN | apply Kd.V_drew)); exact HO291.out) (Kd.R_base ho95) hb)
        have n2_ := Aside0.mk (Kd.R_lower (Kd.R_new' ho95 (Kd.R_lt (by (with_reducible repeat (first | apply Kd.R_alloc | apply Kd.R_drewN | apply Kd.R_drew)); exact HO281.out))) (below_size (by with_reducible repeat (first | exact HB.out | apply below_alloc | apply pw_below_drewN | apply below_drew1 | refine below_set ?_ GE276.out))))
        have n3_ := Aside0.mk (blk_below (g := gb276) (o := .cells #[.int .u32 a0_0, .slice (some ad283) l0_1.length c0_1] 26 (0, 0)) (by (with_reducible repeat (first | refine blk_drewN ?_ _ | refine blk_drew ?_ | refine blk_alloc ?_ _)); exact BK276.out) hb)
        have n4_ := Aside0.mk (below_step (by with_reducible repeat (first | exact HB.out | apply below_alloc | apply pw_below_drewN | apply below_drew1 | refine below_set ?_ GE276.out)) hb)
        clear HO281 HO291 BK276 HB
        have HO281 := n0_
        have HO291 := n1_
        have HO286 := n2_
        have BK276 := n3_
        have HB := n4_
        clear n0_ n1_ n2_ n3_ n4_ hb ho95
        refine hK.out _ _ ⟨(blk_cell BK276.out 0).trans rfl, (blk_cell BK276.out 1).trans rfl, ((HB.out.cell (World.block_lt_of_cell? w _ hw298_0)).trans hw298_0), ((HB.out.cell (World.block_lt_of_cell? w _ hw298_1)).trans hw298_1), ((HB.out.cell (World.block_lt_of_cell? w _ hw298_2)).trans hw298_2), ((HB.out.cell (World.block_lt_of_cell? w _ hw298_3)).trans hw298_3)⟩ (fun hHeld => ?_)
        clear hK K
        refine norm_ (a' := ?_) ?_ ?_
        rotate_left
        · show Act.put _ (some 40) _ = _
          simp only [Act.put, List.setIfInBounds_toArray, List.set_cons_zero, List.set_cons_succ, i64_w, i32_w]
          rfl
        refine one_ (i := 3) (N := some 43) #[tt, tt, tt, tt, tt, ff, tt, tt, tt, tt, tt, ff, ff] rfl rfl (one_of HT_.out (by kernel_rfl)) (by decide) (fun K hK => ?_)
        refine Kd.R_append_rows_step (Kd.int .u8) (w0 := w) w.heap.size (by rfl) (.tmp 40) (.tmp 42) 28 5 (.int .u8 0) 1 rfl Try.underlying28 info5 rfl (by decide) (by omega) v285 y284 y287 _ _ _ (fun k_ => some k_ ≠ (.slice Ao93 t279.length co93 : Value).ownBlock) (fun _ => False) rfl rfl ?aO ?aR (fun _ _ h => h) (fun _ h => h.elim) ?aF ?aB ?aS ?aL ?_
        (case aR => repeat (first | exact (Kd.V_reads' HO291.out).2.2 | (with_reducible refine Kd.C_alloc ?_ _) | (with_reducible refine Kd.C_drewN ?_ _) | (with_reducible refine Kd.C_drew ?_)))
        (case aB => exact (by with_reducible repeat (first | exact HB.out | apply below_alloc | apply pw_below_drewN | apply below_drew1 | refine below_set ?_ GE276.out)))
        (case aF => exact (fun k_ hk => Kd.fresh' (Kd.R_lt (by (with_reducible repeat (first | apply Kd.R_alloc | apply Kd.R_drewN | apply Kd.R_drew)); exact HO281.out)) k_ hk))
        (case aO => exact (by (with_reducible repeat (first | apply Kd.R_alloc | apply Kd.R_drewN | apply Kd.R_drew)); exact Kd.R_mono HO286.out (fun _ hk => hk.2)))
        (case aS => exact (below_size (by with_reducible repeat (first | exact HB.out | apply below_alloc | apply pw_below_drewN | apply below_drew1 | refine below_set ?_ GE276.out))))
        (case aL => have := LMc24.out; omega)
        intro v293 w96 ho hb hg hat
        rw [← Ny292.out] at ho
        have n0_ := Aside0.mk (blk_grown (g := gb276) (o := .cells #[.int .u32 a0_0, .slice (some ad283) l0_1.length c0_1] 26 (0, 0)) (by (with_reducible repeat (first | refine blk_drewN ?_ _ | refine blk_drew ?_ | refine blk_alloc ?_ _)); exact BK276.out) hg (Kd.R_ne HO286.out BK276.out (by decide)))
        have n1_ := Aside0.mk (Kd.R_after (ok := (fun _ => True)) (by (with_reducible repeat (first | apply Kd.R_alloc | apply Kd.R_drewN | apply Kd.R_drew)); exact HO281.out) hg hat)
        have n2_ := Aside0.mk (Kd.V_afterv (ok := (fun k_ => k_ ≠ gb276)) (by (with_reducible repeat (first | apply Kd.V_alloc | apply Kd.V_drewN | apply Kd.V_drew)); exact Kd.V_mono HO291.out (fun _ hk => ⟨hk.1.2, hk.2⟩)) hg hat)
        have n3_ := Aside0.mk (hb)
        have n4_ := Aside0.mk (ho)
        clear BK276 HO281 HO291 HB HO286
        have BK276 := n0_
        have HO281 := n1_
        have HO291 := n2_
        have HB := n3_
        have HO294 := n4_
        clear n0_ n1_ n2_ n3_ n4_ ho hb hg hat
        refine hK.out _ _ ⟨(blk_cell BK276.out 0).trans rfl, (blk_cell BK276.out 1).trans rfl, ((HB.out.cell (World.block_lt_of_cell? w _ hw298_0)).trans hw298_0), ((HB.out.cell (World.block_lt_of_cell? w _ hw298_1)).trans hw298_1), ((HB.out.cell (World.block_lt_of_cell? w _ hw298_2)).trans hw298_2), ((HB.out.cell (World.block_lt_of_cell? w _ hw298_3)).trans hw298_3)⟩ (fun hHeld => ?_)
        clear hK K
        refine norm_ (a' := ?_) ?_ ?_
        rotate_left
        · show Act.put _ (some 43) _ = _
          simp only [Act.put, List.setIfInBounds_toArray, List.set_cons_zero, List.set_cons_succ, i64_w, i32_w]
          rfl
        refine one_ (i := 5) (N := some 45) #[tt, tt, tt, tt, tt, tt, tt, tt, tt, tt, tt, ff, ff] rfl rfl (one_of HT_.out (by kernel_rfl)) (by decide) (fun K hK => ?_)
        refine Kd.R_append_rows_step (Kd.int .u8) (w0 := w) w.heap.size (by rfl) (.tmp 43) (.tmp 44) 28 5 (.int .u8 0) 1 rfl Try.underlying28 info5 rfl (by decide) (by omega) v293 y292 l1 _ _ _ (fun k_ => some k_ ≠ (.slice Ao93 t279.length co93 : Value).ownBlock) (fun _ => False) rfl rfl ?aO ?aR (fun _ _ h => h) (fun _ h => h.elim) ?aF ?aB ?aS ?aL ?_
        (case aR => repeat (first | exact (Kd.C_below HR1.out HB.out) | (with_reducible refine Kd.C_alloc ?_ _) | (with_reducible refine Kd.C_drewN ?_ _) | (with_reducible refine Kd.C_drew ?_)))
        (case aB => exact (by with_reducible repeat (first | exact HB.out | apply below_alloc | apply pw_below_drewN | apply below_drew1 | refine below_set ?_ GE276.out)))
        (case aF => exact (fun k_ hk => Kd.fresh' (Kd.R_lt (by (with_reducible repeat (first | apply Kd.R_alloc | apply Kd.R_drewN | apply Kd.R_drew)); exact HO281.out)) k_ hk))
        (case aO => exact (by (with_reducible repeat (first | apply Kd.R_alloc | apply Kd.R_drewN | apply Kd.R_drew)); exact HO294.out))
        (case aS => exact (below_size (by with_reducible repeat (first | exact HB.out | apply below_alloc | apply pw_below_drewN | apply below_drew1 | refine below_set ?_ GE276.out))))
        (case aL => have := LMc25.out; omega)
        intro v296 w97 ho hb hg hat
        rw [← Ny295.out] at ho
        have n0_ := Aside0.mk (blk_grown (g := gb276) (o := .cells #[.int .u32 a0_0, .slice (some ad283) l0_1.length c0_1] 26 (0, 0)) (by (with_reducible repeat (first | refine blk_drewN ?_ _ | refine blk_drew ?_ | refine blk_alloc ?_ _)); exact BK276.out) hg (Kd.R_ne HO294.out BK276.out (by decide)))
        have n1_ := Aside0.mk (Kd.R_after (ok := (fun _ => True)) (by (with_reducible repeat (first | apply Kd.R_alloc | apply Kd.R_drewN | apply Kd.R_drew)); exact HO281.out) hg hat)
        have n2_ := Aside0.mk (Kd.V_afterv (ok := (fun k_ => k_ ≠ gb276)) (by (with_reducible repeat (first | apply Kd.V_alloc | apply Kd.V_drewN | apply Kd.V_drew)); exact HO291.out) hg hat)
        have n3_ := Aside0.mk (hb)
        have n4_ := Aside0.mk (ho)
        clear BK276 HO281 HO291 HB HO294
        have BK276 := n0_
        have HO281 := n1_
        have HO291 := n2_
        have HB := n3_
        have HO297 := n4_
        clear n0_ n1_ n2_ n3_ n4_ ho hb hg hat
        refine hK.out _ _ ⟨(blk_cell BK276.out 0).trans rfl, (blk_cell BK276.out 1).trans rfl, ((HB.out.cell (World.block_lt_of_cell? w _ hw298_0)).trans hw298_0), ((HB.out.cell (World.block_lt_of_cell? w _ hw298_1)).trans hw298_1), ((HB.out.cell (World.block_lt_of_cell? w _ hw298_2)).trans hw298_2), ((HB.out.cell (World.block_lt_of_cell? w _ hw298_3)).trans hw298_3)⟩ (fun hHeld => ?_)
        clear hK K
        refine norm_ (a' := ?_) ?_ ?_
        rotate_left
        · show Act.put _ (some 45) _ = _
          simp only [Act.put, List.setIfInBounds_toArray, List.set_cons_zero, List.set_cons_succ, i64_w, i32_w]
          rfl
        refine one_ (i := 11) (N := some 51) #[tt, tt, tt, tt, tt, tt, tt, tt, tt, tt, tt, tt, ff] rfl rfl (one_of HT_.out (by kernel_rfl)) (by decide) (fun K hK => ?_)
        refine Kd.R_append_rows_step (Kd.int .u8) (w0 := w) w.heap.size (by rfl) (.tmp 45) (.tmp 50) 28 5 (.int .u8 0) 1 rfl Try.underlying28 info5 rfl (by decide) (by omega) v296 y295 ((rd_T30 l0_1 0).f3) _ _ _ (fun k_ => some k_ ≠ (.slice Ao93 t279.length co93 : Value).ownBlock) (fun _ => False) rfl rfl ?aO ?aR (fun _ _ h => h) (fun _ h => h.elim) ?aF ?aB ?aS ?aL ?_
        (case aR => repeat (first | exact (Kd.C_below HR298_3.out HB.out) | (with_reducible refine Kd.C_alloc ?_ _) | (with_reducible refine Kd.C_drewN ?_ _) | (with_reducible refine Kd.C_drew ?_)))
        (case aB => exact (by with_reducible repeat (first | exact HB.out | apply below_alloc | apply pw_below_drewN | apply below_drew1 | refine below_set ?_ GE276.out)))
        (case aF => exact (fun k_ hk => Kd.fresh' (Kd.R_lt (by (with_reducible repeat (first | apply Kd.R_alloc | apply Kd.R_drewN | apply Kd.R_drew)); exact HO281.out)) k_ hk))
        (case aO => exact (by (with_reducible repeat (first | apply Kd.R_alloc | apply Kd.R_drewN | apply Kd.R_drew)); exact HO297.out))
        (case aS => exact (below_size (by with_reducible repeat (first | exact HB.out | apply below_alloc | apply pw_below_drewN | apply below_drew1 | refine below_set ?_ GE276.out))))
        (case aL => have := LMc26.out; omega)
        intro v300 w98 ho hb hg hat
        rw [← Ny299.out] at ho
        have n0_ := Aside0.mk (blk_grown (g := gb276) (o := .cells #[.int .u32 a0_0, .slice (some ad283) l0_1.length c0_1] 26 (0, 0)) (by (with_reducible repeat (first | refine blk_drewN ?_ _ | refine blk_drew ?_ | refine blk_alloc ?_ _)); exact BK276.out) hg (Kd.R_ne HO297.out BK276.out (by decide)))
        have n1_ := Aside0.mk (Kd.R_after (ok := (fun _ => True)) (by (with_reducible repeat (first | apply Kd.R_alloc | apply Kd.R_drewN | apply Kd.R_drew)); exact HO281.out) hg hat)
        have n2_ := Aside0.mk (Kd.V_afterv (ok := (fun k_ => k_ ≠ gb276)) (by (with_reducible repeat (first | apply Kd.V_alloc | apply Kd.V_drewN | apply Kd.V_drew)); exact HO291.out) hg hat)
        have n3_ := Aside0.mk (hb)
        have n4_ := Aside0.mk (ho)
        clear BK276 HO281 HO291 HB HO297
        have BK276 := n0_
        have HO281 := n1_
        have HO291 := n2_
        have HB := n3_
        have HO301 := n4_
        clear n0_ n1_ n2_ n3_ n4_ ho hb hg hat
        refine hK.out _ _ ⟨(blk_cell BK276.out 0).trans rfl, (blk_cell BK276.out 1).trans rfl, ((HB.out.cell (World.block_lt_of_cell? w _ hw298_0)).trans hw298_0), ((HB.out.cell (World.block_lt_of_cell? w _ hw298_1)).trans hw298_1), ((HB.out.cell (World.block_lt_of_cell? w _ hw298_2)).trans hw298_2), ((HB.out.cell (World.block_lt_of_cell? w _ hw298_3)).trans hw298_3)⟩ (fun hHeld => ?_)
        clear hK K
        refine norm_ (a' := ?_) ?_ ?_
        rotate_left
        · show Act.put _ (some 51) _ = _
          simp only [Act.put, List.setIfInBounds_toArray, List.set_cons_zero, List.set_cons_succ, i64_w, i32_w]
          rfl
        refine pure_ (i := 12) (N := some 8) (v := ?_) (a' := ?_) #[tt, tt, tt, tt, tt, tt, tt, tt, tt, tt, tt, tt, tt] rfl rfl (any_of HT_.out (by kernel_rfl)) (fun _ _ _ h => h) (Or.inl ⟨by rfl, ?_⟩) ?_ ?_
        rotate_left
        · intro w'
          go_simp
          with_reducible rfl
        rotate_left
        · simp only [Act.put, List.setIfInBounds_toArray, List.set_cons_zero, List.set_cons_succ, i64_w, i32_w]
          rfl
        refine done_ (done_of HT_.out (by kernel_rfl)) ?_
        have p28 : 0 ≤ (56 : Int) := (by omega)
        have q28 : (56 : Int) < ((y299.length : Int) : Int) := of_decide_eq_true (by assumption)
        have qi28 : (56 < y299.length) = True := eq_true (by omega)
        obtain ⟨go28, co28, eo28, gb28, gl28, cl28, HG28⟩ := Kd.R_form HO301.out (by omega)
        (first | cases eo28 | (injection eo28 with ea_ en_ ec_; (first | subst ea_ | (injection ea_ with ea_; subst ea_)); subst ec_; clear en_))
        have GB28 := Aside0.mk gb28
        have GG28 := Aside0.mk HG28
        clear gb28 gl28 HG28
        obtain ⟨hx28_0, hf28_0⟩ := Kd.R_celln 0 HO301.out (56 : Int) p28 q28
        (try rw [show ((56 : Int)).toNat = 56 from rfl] at hx28_0)
        (try simp only [Nat.reduceMul, Nat.zero_mul, Nat.zero_add, Nat.reduceAdd] at hx28_0)
        (try rw [show ((56 : Int)).toNat = 56 from rfl] at hf28_0)
        (try simp only [Nat.reduceMul, Nat.zero_mul, Nat.zero_add, Nat.reduceAdd] at hf28_0)
        replace p28 := eq_true p28
        replace q28 := eq_true q28
        obtain ⟨hy99_, hz99_⟩ := Kd.R_celln 0 HO301.out (56 : Int) (by omega) (of_decide_eq_true (by assumption))
        (try simp only [Int.reduceToNat, Int.toNat_zero, Int.toNat_ofNat, Nat.reduceMul, Nat.zero_mul, Nat.zero_add] at hy99_ hz99_)
        (try rw [show ((56 : Int)).toNat = 56 from rfl] at hy99_)
        (try rw [show ((56 : Int)).toNat = 56 from rfl] at hz99_)
        have HP99 := Kd.R_putg HO301.out (56 : Int) ((wrap64 (84 + (l1.length : Int))) % 256)
        try go_wp2_with (first | ((with_reducible refine gate_store (t := 5) (p := 62) rfl ?_); refine store_event (t := 5) (p := 62) (v := ?vo_w100) (w1 := (w98.setCell ⟨go28, (56 : Int).toNat, none⟩ (.int .u8 ((wrap64 (84 + (l1.length : Int))) % 256)))) ?hg ?ho ?hn ?hr ?_; (case ho => rfl); (case hg => rfl); (case hn => rfl); (case hr => first | (go_simp; done) | (go_simp; rfl)); intro w100 hw; have hg : w98.grownBy w100 (some go28) := (by rw [hw]; exact HP99.2); have hp_ : Kd.R (Kd.int .u8) 5 w100 w.heap.size (fun k_ => some k_ ≠ (.slice Ao93 t279.length co93 : Value).ownBlock) (.slice (some ⟨go28, 0, none⟩) y299.length co28) y302 := (by rw [hw, Ny302.out]; exact HP99.1); clear HP99; have n0_ := Aside0.mk (blk_grown (g := gb276) (o := .cells #[.int .u32 a0_0, .slice (some ad283) l0_1.length c0_1] 26 (0, 0)) (by (with_reducible repeat (first | refine blk_drewN ?_ _ | refine blk_drew ?_ | refine blk_alloc ?_ _)); exact BK276.out) hg (Kd.R_ne HO301.out BK276.out (by decide))); have n1_ := Aside0.mk (Kd.R_after (v := (.slice (some ⟨go28, 0, none⟩) y299.length co28)) (v1 := (.slice (some ⟨go28, 0, none⟩) y299.length co28)) (ok := (fun _ => True)) (by (with_reducible repeat (first | apply Kd.R_alloc | apply Kd.R_drewN | apply Kd.R_drew)); exact HO281.out) hg (.inl rfl)); have n2_ := Aside0.mk (Kd.V_afterv (v := (.slice (some ⟨go28, 0, none⟩) y299.length co28)) (v1 := (.slice (some ⟨go28, 0, none⟩) y299.length co28)) (ok := (fun k_ => k_ ≠ gb276)) (by (with_reducible repeat (first | apply Kd.V_alloc | apply Kd.V_drewN | apply Kd.V_drew)); exact HO291.out) hg (.inl rfl)); have n3_ := Aside0.mk (hp_); have n4_ := Aside0.mk ((by rw [hw]; exact below_set (HB.out) GB28.out : Below w.heap.size w w100)); clear BK276; clear HO281; clear HO291; clear HO301; clear HB; have BK276 := n0_; have HO281 := n1_; have HO291 := n2_; have HO301 := n3_; have HB := n4_; clear n0_ n1_ n2_ n3_ n4_; clear hg hw hp_; have p30 : 0 ≤ (57 : Int) := (by omega); have q30 : (57 : Int) < ((y299.length : Int) : Int) := of_decide_eq_true (by assumption); have qi30 : (57 < y299.length) = True := eq_true (by omega); obtain ⟨hx30_0, hf30_0⟩ := Kd.R_celln 0 HO301.out (57 : Int) p30 q30; (try rw [show ((57 : Int)).toNat = 57 from rfl] at hx30_0); (try simp only [Nat.reduceMul, Nat.zero_mul, Nat.zero_add, Nat.reduceAdd] at hx30_0); (try rw [show ((57 : Int)).toNat = 57 from rfl] at hf30_0); (try simp only [Nat.reduceMul, Nat.zero_mul, Nat.zero_add, Nat.reduceAdd] at hf30_0); replace p30 := eq_true p30; replace q30 := eq_true q30; obtain ⟨hy101_, hz101_⟩ := Kd.R_celln 0 HO301.out (57 : Int) (by omega) (of_decide_eq_true (by assumption)); (try simp only [Int.reduceToNat, Int.toNat_zero, Int.toNat_ofNat, Nat.reduceMul, Nat.zero_mul, Nat.zero_add] at hy101_ hz101_); (try rw [show ((57 : Int)).toNat = 57 from rfl] at hy101_); (try rw [show ((57 : Int)).toNat = 57 from rfl] at hz101_); have HP101 := Kd.R_putg HO301.out (57 : Int) (((wrap64 (84 + (l1.length : Int))) / 256) % 256)) | ((with_reducible refine gate_store (t := 5) (p := 63) rfl ?_); refine store_event (t := 5) (p := 63) (v := ?vo_w102) (w1 := (w100.setCell ⟨go28, (57 : Int).toNat, none⟩ (.int .u8 (((wrap64 (84 + (l1.length : Int))) / 256) % 256)))) ?hg ?ho ?hn ?hr ?_; (case ho => rfl); (case hg => rfl); (case hn => rfl); (case hr => first | (go_simp; done) | (go_simp; rfl)); intro w102 hw; have hg : w100.grownBy w102 (some go28) := (by rw [hw]; exact HP101.2); have hp_ : Kd.R (Kd.int .u8) 5 w102 w.heap.size (fun k_ => some k_ ≠ (.slice Ao93 t279.length co93 : Value).ownBlock) (.slice (some ⟨go28, 0, none⟩) y299.length co28) y303 := (by rw [hw, Ny303.out]; exact HP101.1); clear HP101; have n0_ := Aside0.mk (blk_grown (g := gb276) (o := .cells #[.int .u32 a0_0, .slice (some ad283) l0_1.length c0_1] 26 (0, 0)) (by (with_reducible repeat (first | refine blk_drewN ?_ _ | refine blk_drew ?_ | refine blk_alloc ?_ _)); exact BK276.out) hg (Kd.R_ne HO301.out BK276.out (by decide))); have n1_ := Aside0.mk (Kd.R_after (v := (.slice (some ⟨go28, 0, none⟩) y299.length co28)) (v1 := (.slice (some ⟨go28, 0, none⟩) y299.length co28)) (ok := (fun _ => True)) (by (with_reducible repeat (first | apply Kd.R_alloc | apply Kd.R_drewN | apply Kd.R_drew)); exact HO281.out) hg (.inl rfl)); have n2_ := Aside0.mk (Kd.V_afterv (v := (.slice (some ⟨go28, 0, none⟩) y299.length co28)) (v1 := (.slice (some ⟨go28, 0, none⟩) y299.length co28)) (ok := (fun k_ => k_ ≠ gb276)) (by (with_reducible repeat (first | apply Kd.V_alloc | apply Kd.V_drewN | apply Kd.V_drew)); exact HO291.out) hg (.inl rfl)); have n3_ := Aside0.mk (hp_); have n4_ := Aside0.mk ((by rw [hw]; exact below_set (HB.out) GB28.out : Below w.heap.size w w102)); clear BK276; clear HO281; clear HO291; clear HO301; clear HB; have BK276 := n0_; have HO281 := n1_; have HO291 := n2_; have HO301 := n3_; have HB := n4_; clear n0_ n1_ n2_ n3_ n4_; clear hg hw hp_) | ((with_reducible refine gate_callee (f := 10) rfl ?_); refine goesL_ (some 66) rfl rfl Try.func10 (by kernel_rfl) rfl #[.slice (some ⟨go28, 0, none⟩) y303.length co28] rfl (by (try simp only [List.map_toArray, List.map_cons, List.map_nil]); first | done | (rw [show y303.length = y299.length from (Kd.R_reads' HO301.out).1.symm] <;> rfl) | rfl | (simp only [List.length_drop, List.length_take]; rfl)) ?_; (with_reducible refine (image_Get.calls kj4 _ _ y303 t304 t305 t308 _ ?side1 ?side2 A31.out).mono ?_); (case side1 => repeat (first | exact (Kd.R_reads' HO301.out).2.2 | (with_reducible refine Kd.C_alloc ?_ _) | (with_reducible refine Kd.C_drewN ?_ _) | (with_reducible refine Kd.C_drew ?_))); (case side2 => rw [show y303.length = y299.length from (Kd.R_reads' HO301.out).1.symm]; exact (Kd.R_reads' HO301.out).2.1); rintro e w103 ⟨v306, rfl, ho0, hb⟩; refine ⟨_, rfl, ?_⟩; have n0_ := Aside0.mk (Kd.R_below (by (with_reducible repeat (first | apply Kd.R_alloc | apply Kd.R_drewN | apply Kd.R_drew)); exact HO281.out) hb); have n1_ := Aside0.mk (Kd.V_elder' (by (with_reducible repeat (first | apply Kd.V_alloc | apply Kd.V_drewN | apply Kd.V_drew)); exact HO291.out) (by first | exact Kd.N_base ho0 | exact Kd.N_base (Kd.S_N (Kd.S_bound ho0))) hb); have n2_ := Aside0.mk (Kd.R_below (by (with_reducible repeat (first | apply Kd.R_alloc | apply Kd.R_drewN | apply Kd.R_drew)); exact HO301.out) hb); have n3_ := Aside0.mk (Kd.N_lower (Kd.N_mono (ok' := fun k_ => some k_ ≠ (.slice Ao93 t279.length co93 : Value).ownBlock ∧ some k_ ≠ (.slice (some ⟨go28, 0, none⟩) y299.length co28 : Value).ownBlock ∧ k_ ≠ gb276) (Kd.S_N (Kd.S_bound ho0)) (fun k_ hk_ => ⟨(Kd.fresh' (Kd.R_lt (by (with_reducible repeat (first | apply Kd.R_alloc | apply Kd.R_drewN | apply Kd.R_drew)); exact HO281.out)) k_ hk_.2.1), (Kd.fresh' (Kd.R_lt (by (with_reducible repeat (first | apply Kd.R_alloc | apply Kd.R_drewN | apply Kd.R_drew)); exact HO301.out)) k_ hk_.2.1), (Kd.freshB (g := gb276) (o := .cells #[.int .u32 a0_0, .slice (some ad283) l0_1.length c0_1] 26 (0, 0)) (by (with_reducible repeat (first | refine blk_drewN ?_ _ | refine blk_drew ?_ | refine blk_alloc ?_ _)); exact BK276.out) k_ hk_.2.1)⟩)) (below_size (by with_reducible repeat (first | exact HB.out | apply below_alloc | apply pw_below_drewN | apply below_drew1 | refine below_set ?_ GE276.out)))); have n4_ := Aside0.mk (blk_below (g := gb276) (o := .cells #[.int .u32 a0_0, .slice (some ad283) l0_1.length c0_1] 26 (0, 0)) (by (with_reducible repeat (first | refine blk_drewN ?_ _ | refine blk_drew ?_ | refine blk_alloc ?_ _)); exact BK276.out) hb); have n5_ := Aside0.mk (below_step (by with_reducible repeat (first | exact HB.out | apply below_alloc | apply pw_below_drewN | apply below_drew1 | refine below_set ?_ GE276.out)) hb); clear HO281; clear HO291; clear HO301; clear BK276; clear HB; have HO281 := n0_; have HO291 := n1_; have HO301 := n2_; have HO307 := n3_; have BK276 := n4_; have HB := n5_; clear n0_ n1_ n2_ n3_ n4_ n5_; (try clear hb); (try clear hb2); (try clear hk); (try clear hi); (try clear ho0)) | ((with_reducible refine gate_dst (N := 10) rfl ?_); (try (refine gate_guard (by rfl) ?_; dsimp only)); refine box_event ?hg (N := 10) ?hd (cs := #[.int .u32 0, .slice none 0 0]) (t := 26) ?hr ?_; (case hd => rfl); (case hg => rfl); (case hr => first | (go_simp; done) | (go_simp; rfl)); intro gb309 hg w104 hbox hb; have n0_ := Aside0.mk (Kd.R_below (by (with_reducible repeat (first | apply Kd.R_alloc | apply Kd.R_drewN | apply Kd.R_drew)); exact HO281.out) hb); have n1_ := Aside0.mk (Kd.V_below (Kd.V_elderB (by (with_reducible repeat (first | apply Kd.V_alloc | apply Kd.V_drewN | apply Kd.V_drew)); exact HO291.out) gb309 (Nat.le_of_eq hg.symm)) hb); have n2_ := Aside0.mk (Kd.R_below (by (with_reducible repeat (first | apply Kd.R_alloc | apply Kd.R_drewN | apply Kd.R_drew)); exact HO301.out) hb); have n3_ := Aside0.mk (Kd.N_below (Kd.N_elderB (by (with_reducible repeat (first | apply Kd.N_alloc | apply Kd.N_drewN | apply Kd.N_drew)); exact HO307.out) gb309 (Nat.le_of_eq hg.symm)) hb); have n4_ := Aside0.mk (blk_below (g := gb276) (o := .cells #[.int .u32 a0_0, .slice (some ad283) l0_1.length c0_1] 26 (0, 0)) (by (with_reducible repeat (first | refine blk_drewN ?_ _ | refine blk_drew ?_ | refine blk_alloc ?_ _)); exact BK276.out) hb); have n5_ := Aside0.mk (below_step (by with_reducible repeat (first | exact HB.out | apply below_alloc | apply pw_below_drewN | apply below_drew1 | refine below_set ?_ GE276.out)) hb); have n6_ := Aside0.mk (hbox); have n7_ := Aside0.mk ((by rw [hg]; exact (below_size (by with_reducible repeat (first | exact HB.out | apply below_alloc | apply pw_below_drewN | apply below_drew1 | refine below_set ?_ GE276.out))) : w.heap.size ≤ gb309)); have n8_ := Aside0.mk ((by rw [hg]; exact (below_size (by with_reducible repeat (first | exact HB.out | apply below_alloc | apply pw_below_drewN | apply below_drew1 | refine below_set ?_ GE276.out))) : w.heap.size ≤ gb309)); have n9_ := Aside0.mk ((by rw [hg]; exact Nat.ne_of_lt (blk_lt (g := gb276) (o := .cells #[.int .u32 a0_0, .slice (some ad283) l0_1.length c0_1] 26 (0, 0)) (by (with_reducible repeat (first | refine blk_drewN ?_ _ | refine blk_drew ?_ | refine blk_alloc ?_ _)); exact BK276.out)) : gb276 ≠ gb309)); have n10_ := Aside0.mk ((by rw [hg]; exact Nat.ne_of_gt (blk_lt (g := gb276) (o := .cells #[.int .u32 a0_0, .slice (some ad283) l0_1.length c0_1] 26 (0, 0)) (by (with_reducible repeat (first | refine blk_drewN ?_ _ | refine blk_drew ?_ | refine blk_alloc ?_ _)); exact BK276.out)) : gb309 ≠ gb276)); clear HO281; clear HO291; clear HO301; clear HO307; clear BK276; clear HB; have HO281 := n0_; have HO291 := n1_; have HO301 := n2_; have HO307 := n3_; have BK276 := n4_; have HB := n5_; have BK309 := n6_; have GW309 := n7_; have GE309 := n8_; have NB276_309 := n9_; have NB309_276 := n10_; clear n0_ n1_ n2_ n3_ n4_ n5_ n6_ n7_ n8_ n9_ n10_; clear hb hbox hg; have hnb105 := NB309_276.out; have hnc105 := NB276_309.out; have hcz106_0 : w104.cell? ⟨gb309, 0, none⟩ = some (.int .u32 0) := (blk_cell BK309.out 0).trans rfl; have hcz106_1 : w104.cell? ⟨gb309, 1, none⟩ = some (.slice none 0 0) := (blk_cell BK309.out 1).trans rfl; have hfz106_0 := blk_frozen BK309.out 0; have hfz106_1 := blk_frozen BK309.out 1; obtain ⟨Ao107, co107, eo107⟩ := Kd.N_slice HO307.out; subst eo107))
        have n0_ : Aside0 (Kd.R (Kd.int .u8) 5 ((w104.setCell ⟨gb309, 0, none⟩ (.int .u32 t304)).setCell ⟨gb309, 1, none⟩ (.slice Ao107 t305.length co107)) w.heap.size (fun k_ => some k_ ≠ (.slice (some ⟨go28, 0, none⟩) y299.length co28 : Value).ownBlock) (.slice Ao93 t279.length co93) t279) := ⟨by (with_reducible repeat (first | apply Kd.R_alloc | apply Kd.R_drewN | apply Kd.R_drew)); exact Kd.R_mono (Kd.R_far (p := ⟨gb309, 1, none⟩) (Kd.R_far (p := ⟨gb309, 0, none⟩) (Kd.R_types HO281.out BK309.out (by decide)) (fun _ hk => hk.2) (.int .u32 t304)) (fun _ hk => hk.2) (.slice Ao107 t305.length co107)) (fun _ hk => hk.1.2)⟩
        have n1_ : Aside0 (Kd.V (Kd.int .u8) 5 ((w104.setCell ⟨gb309, 0, none⟩ (.int .u32 t304)).setCell ⟨gb309, 1, none⟩ (.slice Ao107 t305.length co107)) w.heap.size (fun k_ => some k_ ≠ (.slice (some ⟨go28, 0, none⟩) y299.length co28 : Value).ownBlock ∧ some k_ ≠ (.slice Ao107 t305.length co107 : Value).ownBlock ∧ k_ ≠ gb276 ∧ k_ ≠ gb309) (.slice Ao93 y287.length co93) y287) := ⟨by (with_reducible repeat (first | apply Kd.V_alloc | apply Kd.V_drewN | apply Kd.V_drew)); exact Kd.V_mono (Kd.V_far (p := ⟨gb309, 1, none⟩) (Kd.V_far (p := ⟨gb309, 0, none⟩) (Kd.V_mono HO291.out (fun k_ hk => (⟨hk, hk.2⟩ : _ ∧ k_ ≠ gb309))) (fun _ hk => hk.2) (.int .u32 t304)) (fun _ hk => hk.2) (.slice Ao107 t305.length co107)) (fun _ hk => ⟨hk.1.1.1.2, ⟨hk.1.1.2, ⟨hk.1.1.1.1, hk.1.2⟩⟩⟩)⟩
        have n2_ : Aside0 (Kd.R (Kd.int .u8) 5 ((w104.setCell ⟨gb309, 0, none⟩ (.int .u32 t304)).setCell ⟨gb309, 1, none⟩ (.slice Ao107 t305.length co107)) w.heap.size (fun k_ => some k_ ≠ (.slice Ao93 t279.length co93 : Value).ownBlock) (.slice (some ⟨go28, 0, none⟩) y299.length co28) y303) := ⟨by (with_reducible repeat (first | apply Kd.R_alloc | apply Kd.R_drewN | apply Kd.R_drew)); exact Kd.R_mono (Kd.R_far (p := ⟨gb309, 1, none⟩) (Kd.R_far (p := ⟨gb309, 0, none⟩) (Kd.R_types HO301.out BK309.out (by decide)) (fun _ hk => hk.2) (.int .u32 t304)) (fun _ hk => hk.2) (.slice Ao107 t305.length co107)) (fun _ hk => hk.1)⟩
        have n3_ : Aside0 (Kd.N k30 30 ((w104.setCell ⟨gb309, 0, none⟩ (.int .u32 t304)).setCell ⟨gb309, 1, none⟩ (.slice Ao107 t305.length co107)) w.heap.size (fun k_ => some k_ ≠ (.slice Ao93 t279.length co93 : Value).ownBlock ∧ some k_ ≠ (.slice (some ⟨go28, 0, none⟩) y299.length co28 : Value).ownBlock ∧ k_ ≠ gb276 ∧ k_ ≠ gb309) (.slice Ao107 t305.length co107) t305) := ⟨by (with_reducible repeat (first | apply Kd.N_alloc | apply Kd.N_drewN | apply Kd.N_drew)); exact Kd.N_mono (Kd.N_far (p := ⟨gb309, 1, none⟩) (Kd.N_far (p := ⟨gb309, 0, none⟩) (Kd.N_mono HO307.out (fun k_ hk => (⟨hk, hk.2⟩ : _ ∧ k_ ≠ gb309))) (fun _ hk => hk.2) (.int .u32 t304)) (fun _ hk => hk.2) (.slice Ao107 t305.length co107)) (fun _ hk => ⟨hk.1.1.1, ⟨hk.1.1.2.1, ⟨hk.1.1.2.2, hk.1.2⟩⟩⟩)⟩
        have n4_ : Aside0 (((w104.setCell ⟨gb309, 0, none⟩ (.int .u32 t304)).setCell ⟨gb309, 1, none⟩ (.slice Ao107 t305.length co107)).heap[gb276]? = some (.cells #[.int .u32 a0_0, .slice (some ad283) l0_1.length c0_1] 26 (0, 0))) := ⟨by (with_reducible repeat (first | refine blk_drewN ?_ _ | refine blk_drew ?_ | refine blk_alloc ?_ _)); refine blk_far ?_ NB276_309.out _; (with_reducible repeat (first | refine blk_drewN ?_ _ | refine blk_drew ?_ | refine blk_alloc ?_ _)); refine blk_far ?_ NB276_309.out _; (with_reducible repeat (first | refine blk_drewN ?_ _ | refine blk_drew ?_ | refine blk_alloc ?_ _)); exact BK276.out⟩
        have n5_ : Aside0 (((w104.setCell ⟨gb309, 0, none⟩ (.int .u32 t304)).setCell ⟨gb309, 1, none⟩ (.slice Ao107 t305.length co107)).heap[gb309]? = some (.cells #[.int .u32 t304, .slice Ao107 t305.length co107] 26 (0, 0))) := ⟨by (with_reducible repeat (first | refine blk_drewN ?_ _ | refine blk_drew ?_ | refine blk_alloc ?_ _)); refine blk_put (cs := #[.int .u32 t304, .slice none 0 0]) ?_ 1 _ rfl; (with_reducible repeat (first | refine blk_drewN ?_ _ | refine blk_drew ?_ | refine blk_alloc ?_ _)); refine blk_put (cs := #[.int .u32 0, .slice none 0 0]) ?_ 0 _ rfl; (with_reducible repeat (first | refine blk_drewN ?_ _ | refine blk_drew ?_ | refine blk_alloc ?_ _)); exact BK309.out⟩
        have n6_ : Aside0 (Below w.heap.size w ((w104.setCell ⟨gb309, 0, none⟩ (.int .u32 t304)).setCell ⟨gb309, 1, none⟩ (.slice Ao107 t305.length co107))) := ⟨by with_reducible repeat (first | exact HB.out | apply below_alloc | apply pw_below_drewN | apply below_drew1 | refine below_set ?_ GE276.out | refine below_set ?_ GE309.out)⟩
        (try clear HO281); (try clear HO291); (try clear HO301); (try clear HO307); (try clear BK276); (try clear BK309); (try clear HB)
        generalize ((w104.setCell ⟨gb309, 0, none⟩ (.int .u32 t304)).setCell ⟨gb309, 1, none⟩ (.slice Ao107 t305.length co107)) = w108 at n0_ n1_ n2_ n3_ n4_ n5_ n6_ ⊢
        have HO281 := n0_
        have HO291 := n1_
        have HO301 := n2_
        have HO307 := n3_
        have BK276 := n4_
        have BK309 := n5_
        have HB := n6_
        clear n0_ n1_ n2_ n3_ n4_ n5_ n6_
        have n0_ := Aside0.mk (Kd.R_drew HO281.out)
        have n1_ := Aside0.mk (Kd.V_drew HO291.out)
        have n2_ := Aside0.mk (Kd.R_drew HO301.out)
        have n3_ := Aside0.mk (Kd.N_drew HO307.out)
        have n4_ := Aside0.mk (blk_drew BK276.out)
        have n5_ := Aside0.mk (blk_drew BK309.out)
        have n6_ := Aside0.mk (below_drew1 HB.out)
        clear HO281 HO291 HO301 HO307 BK276 BK309 HB
        have HO281 := n0_
        have HO291 := n1_
        have HO301 := n2_
        have HO307 := n3_
        have BK276 := n4_
        have BK309 := n5_
        have HB := n6_
        clear n0_ n1_ n2_ n3_ n4_ n5_ n6_
        refine start_ (n := 25) (S := fun w' => w'.cell? ⟨gb309, 0, none⟩ = some (.int .u32 t304) ∧ w'.cell? ⟨gb309, 1, none⟩ = some (.slice Ao107 t305.length co107) ∧ w'.cell? ⟨gb276, 0, none⟩ = some (.int .u32 a0_0) ∧ w'.cell? ⟨gb276, 1, none⟩ = some (.slice (some ad283) l0_1.length c0_1)) (ds := []) #[ff, ff, ff, ff, ff, ff, ff, ff, ff, ff, ff, ff, ff, ff, ff, ff, ff, ff, ff, ff, ff, ff, ff, ff, ff] (by kernel_rfl) rfl rfl ⟨(blk_cell BK309.out 0).trans rfl, (blk_cell BK309.out 1).trans rfl, (blk_cell BK276.out 0).trans rfl, (blk_cell BK276.out 1).trans rfl⟩ (fun hHeld => ?_); refine with_tabW tincturelaw8_ImageMoved.tab13 tincturelaw8_ImageMoved.bits13 (fun HT_ HW_ => ?_)
        generalize w108.drew = w109 at HO281 HO291 HO301 HO307 BK276 BK309 HB hHeld ⊢
        refine pure_ (i := 0) (N := some 69) (v := ?_) (a' := ?_) #[tt, ff, ff, ff, ff, ff, ff, ff, ff, ff, ff, ff, ff, ff, ff, ff, ff, ff, ff, ff, ff, ff, ff, ff, ff] rfl rfl (any_of HT_.out (by kernel_rfl)) (fun _ _ _ h => h) (Or.inl ⟨by rfl, ?_⟩) ?_ ?_
        rotate_left
        · intro w'
          go_simp
          with_reducible rfl
        rotate_left
        · simp only [Act.put, List.setIfInBounds_toArray, List.set_cons_zero, List.set_cons_succ, i64_w, i32_w]
          rfl
        refine pure_ (i := 1) (N := some 70) (v := ?_) (a' := ?_) #[tt, tt, ff, ff, ff, ff, ff, ff, ff, ff, ff, ff, ff, ff, ff, ff, ff, ff, ff, ff, ff, ff, ff, ff, ff] rfl rfl (any_of HT_.out (by kernel_rfl)) (fun _ _ _ h => h) (Or.inl ⟨by rfl, ?_⟩) ?_ ?_
        rotate_left
        · intro w'
          go_simp
          with_reducible rfl
        rotate_left
        · simp only [Act.put, List.setIfInBounds_toArray, List.set_cons_zero, List.set_cons_succ, i64_w, i32_w]
          rfl
        refine pure_ (i := 2) (N := some 71) (v := ?_) (a' := ?_) #[tt, tt, tt, ff, ff, ff, ff, ff, ff, ff, ff, ff, ff, ff, ff, ff, ff, ff, ff, ff, ff, ff, ff, ff, ff] rfl rfl (any_of HT_.out (by kernel_rfl)) (fun _ _ _ h => h) (Or.inl ⟨by rfl, ?_⟩) ?_ ?_
        rotate_left
        · intro w'
          go_simp
          with_reducible rfl
        rotate_left
        · simp only [Act.put, List.setIfInBounds_toArray, List.set_cons_zero, List.set_cons_succ, i64_w, i32_w]
          rfl
        refine pure_ (i := 3) (N := some 72) (v := ?_) (a' := ?_) #[tt, tt, tt, tt, ff, ff, ff, ff, ff, ff, ff, ff, ff, ff, ff, ff, ff, ff, ff, ff, ff, ff, ff, ff, ff] rfl rfl (any_of HT_.out (by kernel_rfl)) (fun _ _ _ h => h) (Or.inl ⟨by rfl, ?_⟩) ?_ ?_
        rotate_left
        · intro w'
          go_simp
          with_reducible rfl
        rotate_left
        · simp only [Act.put, List.setIfInBounds_toArray, List.set_cons_zero, List.set_cons_succ, i64_w, i32_w]
          rfl
        refine pure_ (i := 4) (N := some 73) (v := ?_) (a' := ?_) #[tt, tt, tt, tt, tt, ff, ff, ff, ff, ff, ff, ff, ff, ff, ff, ff, ff, ff, ff, ff, ff, ff, ff, ff, ff] rfl rfl (any_of HT_.out (by kernel_rfl)) (fun _ _ _ h => h) (Or.inl ⟨by rfl, ?_⟩) ?_ ?_
        rotate_left
        · intro w'
          go_simp
          with_reducible rfl
        rotate_left
        · simp only [Act.put, List.setIfInBounds_toArray, List.set_cons_zero, List.set_cons_succ, i64_w, i32_w]
          rfl
        refine pure_ (i := 5) (N := some 74) (v := ?_) (a' := ?_) #[tt, tt, tt, tt, tt, tt, ff, ff, ff, ff, ff, ff, ff, ff, ff, ff, ff, ff, ff, ff, ff, ff, ff, ff, ff] rfl rfl (any_of HT_.out (by kernel_rfl)) (fun _ _ _ h => h) (Or.inl ⟨by rfl, ?_⟩) ?_ ?_
        rotate_left
        · intro w'
          go_simp
          with_reducible rfl
        rotate_left
        · simp only [Act.put, List.setIfInBounds_toArray, List.set_cons_zero, List.set_cons_succ, i64_w, i32_w]
          rfl
        refine pure_ (i := 6) (N := some 75) (v := ?_) (a' := ?_) #[tt, tt, tt, tt, tt, tt, tt, ff, ff, ff, ff, ff, ff, ff, ff, ff, ff, ff, ff, ff, ff, ff, ff, ff, ff] rfl rfl (any_of HT_.out (by kernel_rfl)) (fun _ _ _ h => h) (Or.inl ⟨by rfl, ?_⟩) ?_ ?_
        rotate_left
        · intro w'
          go_simp
          with_reducible rfl
        rotate_left
        · simp only [Act.put, List.setIfInBounds_toArray, List.set_cons_zero, List.set_cons_succ, i64_w, i32_w]
          rfl
        refine take_ (i := 7) (N := some 76) (v := ?_) (a' := ?_) #[tt, tt, tt, tt, tt, tt, tt, tt, ff, ff, ff, ff, ff, ff, ff, ff, ff, ff, ff, ff, ff, ff, ff, ff, ff] rfl rfl (take_ofW HT_.out HW_.out (by kernel_rfl)) (fun _ _ _ h => h) (Or.inl ⟨by rfl, ?_⟩) hHeld ?_ ?_
        rotate_left
        · rintro w' ⟨s0, s1, s2, s3⟩
          go_simp
          with_reducible rfl
        rotate_left
        · simp only [Act.put, List.setIfInBounds_toArray, List.set_cons_zero, List.set_cons_succ, i64_w, i32_w]
          rfl
        refine take_ (i := 9) (N := some 78) (v := ?_) (a' := ?_) #[tt, tt, tt, tt, tt, tt, tt, tt, ff, tt, ff, ff, ff, ff, ff, ff, ff, ff, ff, ff, ff, ff, ff, ff, ff] rfl rfl (take_ofW HT_.out HW_.out (by kernel_rfl)) (fun _ _ _ h => h) (Or.inl ⟨by rfl, ?_⟩) hHeld ?_ ?_
        rotate_left
        · rintro w' ⟨s0, s1, s2, s3⟩
          go_simp
          with_reducible rfl
        rotate_left
        · simp only [Act.put, List.setIfInBounds_toArray, List.set_cons_zero, List.set_cons_succ, i64_w, i32_w]
          rfl
        refine one_ (i := 8) (N := some 77) #[tt, tt, tt, tt, tt, tt, tt, tt, tt, tt, ff, ff, ff, ff, ff, ff, ff, ff, ff, ff, ff, ff, ff, ff, ff] rfl rfl (one_of HT_.out (by kernel_rfl)) (by decide) (fun K hK => ?_)
        refine goes_ Try.func16 (by kernel_rfl) rfl #[.agg #[.int .u32 t304, .slice Ao107 t305.length co107]] (by rfl) rfl rfl (by (try simp only [List.map_toArray, List.map_cons, List.map_nil]); first | done | rfl | (simp only [List.length_drop, List.length_take]; rfl)) ?_
        with_reducible refine (tincturelaw8_img.calls kj4 t304 (fun k_ => (some k_ ≠ (.slice Ao93 t279.length co93 : Value).ownBlock ∧ (some k_ ≠ (.slice (some ⟨go28, 0, none⟩) y299.length co28 : Value).ownBlock ∧ (k_ ≠ gb276 ∧ k_ ≠ gb309)))) _ _ t305 t310 t311 _ ?side1 A56.out).mono ?_
        (case side1 => exact Kd.N_V (HO307.out))
        rintro e w110 ⟨v312, rfl, ho0, hb⟩
        refine ⟨_, rfl, ?_⟩
        have n0_ := Aside0.mk (Kd.R_below (by (with_reducible repeat (first | apply Kd.R_alloc | apply Kd.R_drewN | apply Kd.R_drew)); exact HO281.out) hb)
        have n1_ := Aside0.mk (Kd.V_elder' (by (with_reducible repeat (first | apply Kd.V_alloc | apply Kd.V_drewN | apply Kd.V_drew)); exact HO291.out) (by first | exact Kd.N_base ho0 | exact Kd.N_base (Kd.S_N (Kd.S_bound ho0))) hb)
        have n2_ := Aside0.mk (Kd.R_below (by (with_reducible repeat (first | apply Kd.R_alloc | apply Kd.R_drewN | apply Kd.R_drew)); exact HO301.out) hb)
        have n3_ := Aside0.mk (Kd.N_elder' (by (with_reducible repeat (first | apply Kd.N_alloc | apply Kd.N_drewN | apply Kd.N_drew)); exact HO307.out) (by first | exact Kd.N_base ho0 | exact Kd.N_base (Kd.S_N (Kd.S_bound ho0))) hb)
        have n4_ := Aside0.mk (Kd.N_lower (Kd.N_mono (ok' := fun k_ => some k_ ≠ (.slice Ao93 t279.length co93 : Value).ownBlock ∧ some k_ ≠ (.slice (some ⟨go28, 0, none⟩) y299.length co28 : Value).ownBlock ∧ k_ ≠ gb276 ∧ k_ ≠ gb309) ho0 (fun k_ hk_ => ⟨Or.elim hk_ (fun hs_ => hs_.1) (fun hn_ => (Kd.fresh' (Kd.R_lt (by (with_reducible repeat (first | apply Kd.R_alloc | apply Kd.R_drewN | apply Kd.R_drew)); exact HO281.out)) k_ hn_)), Or.elim hk_ (fun hs_ => hs_.2.1) (fun hn_ => (Kd.fresh' (Kd.R_lt (by (with_reducible repeat (first | apply Kd.R_alloc | apply Kd.R_drewN | apply Kd.R_drew)); exact HO301.out)) k_ hn_)), Or.elim hk_ (fun hs_ => hs_.2.2.1) (fun hn_ => (Kd.freshB (g := gb276) (o := .cells #[.int .u32 a0_0, .slice (some ad283) l0_1.length c0_1] 26 (0, 0)) (by (with_reducible repeat (first | refine blk_drewN ?_ _ | refine blk_drew ?_ | refine blk_alloc ?_ _)); exact BK276.out) k_ hn_)), Or.elim hk_ (fun hs_ => hs_.2.2.2) (fun hn_ => (Kd.freshB (g := gb309) (o := .cells #[.int .u32 t304, .slice Ao107 t305.length co107] 26 (0, 0)) (by (with_reducible repeat (first | refine blk_drewN ?_ _ | refine blk_drew ?_ | refine blk_alloc ?_ _)); exact BK309.out) k_ hn_))⟩)) (below_size (by with_reducible repeat (first | exact HB.out | apply below_alloc | apply pw_below_drewN | apply below_drew1 | refine below_set ?_ GE276.out | refine below_set ?_ GE309.out))))
        have n5_ := Aside0.mk (blk_below (g := gb276) (o := .cells #[.int .u32 a0_0, .slice (some ad283) l0_1.length c0_1] 26 (0, 0)) (by (with_reducible repeat (first | refine blk_drewN ?_ _ | refine blk_drew ?_ | refine blk_alloc ?_ _)); exact BK276.out) hb)
        have n6_ := Aside0.mk (blk_below (g := gb309) (o := .cells #[.int .u32 t304, .slice Ao107 t305.length co107] 26 (0, 0)) (by (with_reducible repeat (first | refine blk_drewN ?_ _ | refine blk_drew ?_ | refine blk_alloc ?_ _)); exact BK309.out) hb)
        have n7_ := Aside0.mk (below_step (by with_reducible repeat (first | exact HB.out | apply below_alloc | apply pw_below_drewN | apply below_drew1 | refine below_set ?_ GE276.out | refine below_set ?_ GE309.out)) hb)
        clear HO281 HO291 HO301 HO307 BK276 BK309 HB
        have HO281 := n0_
        have HO291 := n1_
        have HO301 := n2_
        have HO307 := n3_
        have HO313 := n4_
        have BK276 := n5_
        have BK309 := n6_
        have HB := n7_
        clear n0_ n1_ n2_ n3_ n4_ n5_ n6_ n7_
        (try clear hb); (try clear hb2); (try clear hk); (try clear hi); (try clear ho0)
        refine hK.out _ _ ⟨(blk_cell BK309.out 0).trans rfl, (blk_cell BK309.out 1).trans rfl, (blk_cell BK276.out 0).trans rfl, (blk_cell BK276.out 1).trans rfl⟩ (fun hHeld => ?_)
        clear hK K
        refine norm_ (a' := ?_) ?_ ?_
        rotate_left
        · show Act.put _ (some 77) _ = _
          simp only [Act.put, List.setIfInBounds_toArray, List.set_cons_zero, List.set_cons_succ, i64_w, i32_w]
          rfl
        refine one_ (i := 10) (N := some 79) #[tt, tt, tt, tt, tt, tt, tt, tt, tt, tt, tt, ff, ff, ff, ff, ff, ff, ff, ff, ff, ff, ff, ff, ff, ff] rfl rfl (one_of HT_.out (by kernel_rfl)) (by decide) (fun K hK => ?_)
        refine goes_ Try.func16 (by kernel_rfl) rfl #[.agg #[.int .u32 a0_0, .slice (some ad283) l0_1.length c0_1]] (by rfl) rfl rfl (by (try simp only [List.map_toArray, List.map_cons, List.map_nil]); first | done | rfl | (simp only [List.length_drop, List.length_take]; rfl)) ?_
        with_reducible refine (tincturelaw8_img.calls kj4 a0_0 (fun k_ => k_ < w.heap.size) _ _ l0_1 t314 t315 _ ?side1 A57.out).mono ?_
        (case side1 => exact Kd.V_mk HC0_1.out (Kd.F_below (Kd.C_F k30_heap HR0_1.out) (by with_reducible repeat (first | exact HB.out | apply below_alloc | apply pw_below_drewN | apply below_drew1 | refine below_set ?_ GE276.out | refine below_set ?_ GE309.out))))
        rintro e w111 ⟨v316, rfl, ho0, hb⟩
        refine ⟨_, rfl, ?_⟩
        have n0_ := Aside0.mk (Kd.R_below (by (with_reducible repeat (first | apply Kd.R_alloc | apply Kd.R_drewN | apply Kd.R_drew)); exact HO281.out) hb)
        have n1_ := Aside0.mk (Kd.V_elder' (by (with_reducible repeat (first | apply Kd.V_alloc | apply Kd.V_drewN | apply Kd.V_drew)); exact HO291.out) (by first | exact Kd.N_base ho0 | exact Kd.N_base (Kd.S_N (Kd.S_bound ho0))) hb)
        have n2_ := Aside0.mk (Kd.R_below (by (with_reducible repeat (first | apply Kd.R_alloc | apply Kd.R_drewN | apply Kd.R_drew)); exact HO301.out) hb)
        have n3_ := Aside0.mk (Kd.N_elder' (by (with_reducible repeat (first | apply Kd.N_alloc | apply Kd.N_drewN | apply Kd.N_drew)); exact HO307.out) (by first | exact Kd.N_base ho0 | exact Kd.N_base (Kd.S_N (Kd.S_bound ho0))) hb)
        have n4_ := Aside0.mk (Kd.N_elder' (by (with_reducible repeat (first | apply Kd.N_alloc | apply Kd.N_drewN | apply Kd.N_drew)); exact HO313.out) (by first | exact Kd.N_base ho0 | exact Kd.N_base (Kd.S_N (Kd.S_bound ho0))) hb)
        have n5_ := Aside0.mk (Kd.N_lower (Kd.N_mono (ok' := fun k_ => some k_ ≠ (.slice Ao93 t279.length co93 : Value).ownBlock ∧ some k_ ≠ (.slice (some ⟨go28, 0, none⟩) y299.length co28 : Value).ownBlock ∧ some k_ ≠ (.slice Ao107 t305.length co107 : Value).ownBlock ∧ some k_ ≠ (v312 : Value).ownBlock ∧ k_ ≠ gb276 ∧ k_ ≠ gb309) ho0 (fun k_ hk_ => ⟨Or.elim hk_ (fun hs_ => fun e_ => Nat.not_le.2 hs_ (Kd.R_base HO281.out k_ e_.symm)) (fun hn_ => (Kd.fresh' (Kd.R_lt (by (with_reducible repeat (first | apply Kd.R_alloc | apply Kd.R_drewN | apply Kd.R_drew)); exact HO281.out)) k_ hn_)), Or.elim hk_ (fun hs_ => fun e_ => Nat.not_le.2 hs_ (Kd.R_base HO301.out k_ e_.symm)) (fun hn_ => (Kd.fresh' (Kd.R_lt (by (with_reducible repeat (first | apply Kd.R_alloc | apply Kd.R_drewN | apply Kd.R_drew)); exact HO301.out)) k_ hn_)), Or.elim hk_ (fun hs_ => fun e_ => Nat.not_le.2 hs_ (Kd.N_base HO307.out k_ e_.symm)) (fun hn_ => (Kd.fresh' (Kd.N_lt (by (with_reducible repeat (first | apply Kd.N_alloc | apply Kd.N_drewN | apply Kd.N_drew)); exact HO307.out)) k_ hn_)), Or.elim hk_ (fun hs_ => fun e_ => Nat.not_le.2 hs_ (Kd.N_base HO313.out k_ e_.symm)) (fun hn_ => (Kd.fresh' (Kd.N_lt (by (with_reducible repeat (first | apply Kd.N_alloc | apply Kd.N_drewN | apply Kd.N_drew)); exact HO313.out)) k_ hn_)), Or.elim hk_ (fun hs_ => fun e_ => Nat.not_le.2 hs_ (by rw [e_]; exact GW276.out)) (fun hn_ => (Kd.freshB (g := gb276) (o := .cells #[.int .u32 a0_0, .slice (some ad283) l0_1.length c0_1] 26 (0, 0)) (by (with_reducible repeat (first | refine blk_drewN ?_ _ | refine blk_drew ?_ | refine blk_alloc ?_ _)); exact BK276.out) k_ hn_)), Or.elim hk_ (fun hs_ => fun e_ => Nat.not_le.2 hs_ (by rw [e_]; exact GW309.out)) (fun hn_ => (Kd.freshB (g := gb309) (o := .cells #[.int .u32 t304, .slice Ao107 t305.length co107] 26 (0, 0)) (by (with_reducible repeat (first | refine blk_drewN ?_ _ | refine blk_drew ?_ | refine blk_alloc ?_ _)); exact BK309.out) k_ hn_))⟩)) (below_size (by with_reducible repeat (first | exact HB.out | apply below_alloc | apply pw_below_drewN | apply below_drew1 | refine below_set ?_ GE276.out | refine below_set ?_ GE309.out))))
        have n6_ := Aside0.mk (blk_below (g := gb276) (o := .cells #[.int .u32 a0_0, .slice (some ad283) l0_1.length c0_1] 26 (0, 0)) (by (with_reducible repeat (first | refine blk_drewN ?_ _ | refine blk_drew ?_ | refine blk_alloc ?_ _)); exact BK276.out) hb)
        have n7_ := Aside0.mk (blk_below (g := gb309) (o := .cells #[.int .u32 t304, .slice Ao107 t305.length co107] 26 (0, 0)) (by (with_reducible repeat (first | refine blk_drewN ?_ _ | refine blk_drew ?_ | refine blk_alloc ?_ _)); exact BK309.out) hb)
        have n8_ := Aside0.mk (below_step (by with_reducible repeat (first | exact HB.out | apply below_alloc | apply pw_below_drewN | apply below_drew1 | refine below_set ?_ GE276.out | refine below_set ?_ GE309.out)) hb)
        clear HO281 HO291 HO301 HO307 HO313 BK276 BK309 HB
        have HO281 := n0_
        have HO291 := n1_
        have HO301 := n2_
        have HO307 := n3_
        have HO313 := n4_
        have HO317 := n5_
        have BK276 := n6_
        have BK309 := n7_
        have HB := n8_
        clear n0_ n1_ n2_ n3_ n4_ n5_ n6_ n7_ n8_
        (try clear hb); (try clear hb2); (try clear hk); (try clear hi); (try clear ho0)
        obtain ⟨Ao112, co112, eo112⟩ := Kd.N_slice HO313.out
        (first | subst eo112 | (injection eo112 with f1_ f2_ f3_; have f4_ := f1_.symm; have f5_ := f3_.symm; clear f1_ f2_ f3_; subst f4_; subst f5_))
        obtain ⟨Ao113, co113, eo113⟩ := Kd.N_slice HO317.out
        (first | subst eo113 | (injection eo113 with f1_ f2_ f3_; have f4_ := f1_.symm; have f5_ := f3_.symm; clear f1_ f2_ f3_; subst f4_; subst f5_))
        refine hK.out _ _ ⟨(blk_cell BK309.out 0).trans rfl, (blk_cell BK309.out 1).trans rfl, (blk_cell BK276.out 0).trans rfl, (blk_cell BK276.out 1).trans rfl⟩ (fun hHeld => ?_)
        clear hK K
        refine norm_ (a' := ?_) ?_ ?_
        rotate_left
        · show Act.put _ (some 79) _ = _
          simp only [Act.put, List.setIfInBounds_toArray, List.set_cons_zero, List.set_cons_succ, i64_w, i32_w]
          rfl
        refine one_ (i := 11) (N := some 80) #[tt, tt, tt, tt, tt, tt, tt, tt, tt, tt, tt, tt, ff, ff, ff, ff, ff, ff, ff, ff, ff, ff, ff, ff, ff] rfl rfl (one_of HT_.out (by kernel_rfl)) (by decide) (fun K hK => ?_)
        refine goes_ Try.func17 (by kernel_rfl) rfl #[.agg #[.int .u32 t310, .slice Ao112 t311.length co112], .agg #[.int .u32 t314, .slice Ao113 t315.length co113]] (by rfl) rfl rfl (by (try simp only [List.map_toArray, List.map_cons, List.map_nil]); first | done | rfl | (simp only [List.length_drop, List.length_take]; rfl)) ?_
        with_reducible refine (tincturelaw8_sameImage.calls kj4 t310 _ _ t311 t314 _ _ t315 false _ ?side1 ?side2 ?side3 ?side4 A58.out).mono ?_
        (case side1 => repeat (first | exact (Kd.N_reads' HO313.out).2.2 | (with_reducible refine Kd.C_alloc ?_ _) | (with_reducible refine Kd.C_drewN ?_ _) | (with_reducible refine Kd.C_drew ?_)))
        (case side2 => exact (Kd.N_reads' HO313.out).2.1)
        (case side3 => repeat (first | exact (Kd.N_reads' HO317.out).2.2 | (with_reducible refine Kd.C_alloc ?_ _) | (with_reducible refine Kd.C_drewN ?_ _) | (with_reducible refine Kd.C_drew ?_)))
        (case side4 => exact (Kd.N_reads' HO317.out).2.1)
        rintro e w114 ⟨rfl, hb⟩
        refine ⟨_, rfl, ?_⟩
        have n0_ := Aside0.mk (Kd.R_below (by (with_reducible repeat (first | apply Kd.R_alloc | apply Kd.R_drewN | apply Kd.R_drew)); exact HO281.out) hb)
        have n1_ := Aside0.mk (Kd.V_below (by (with_reducible repeat (first | apply Kd.V_alloc | apply Kd.V_drewN | apply Kd.V_drew)); exact HO291.out) hb)
        have n2_ := Aside0.mk (Kd.R_below (by (with_reducible repeat (first | apply Kd.R_alloc | apply Kd.R_drewN | apply Kd.R_drew)); exact HO301.out) hb)
        have n3_ := Aside0.mk (Kd.N_below (by (with_reducible repeat (first | apply Kd.N_alloc | apply Kd.N_drewN | apply Kd.N_drew)); exact HO307.out) hb)
        have n4_ := Aside0.mk (Kd.N_below (by (with_reducible repeat (first | apply Kd.N_alloc | apply Kd.N_drewN | apply Kd.N_drew)); exact HO313.out) hb)
        have n5_ := Aside0.mk (Kd.N_below (by (with_reducible repeat (first | apply Kd.N_alloc | apply Kd.N_drewN | apply Kd.N_drew)); exact HO317.out) hb)
        have n6_ := Aside0.mk (blk_below (g := gb276) (o := .cells #[.int .u32 a0_0, .slice (some ad283) l0_1.length c0_1] 26 (0, 0)) (by (with_reducible repeat (first | refine blk_drewN ?_ _ | refine blk_drew ?_ | refine blk_alloc ?_ _)); exact BK276.out) hb)
        have n7_ := Aside0.mk (blk_below (g := gb309) (o := .cells #[.int .u32 t304, .slice Ao107 t305.length co107] 26 (0, 0)) (by (with_reducible repeat (first | refine blk_drewN ?_ _ | refine blk_drew ?_ | refine blk_alloc ?_ _)); exact BK309.out) hb)
        have n8_ := Aside0.mk (below_step (by with_reducible repeat (first | exact HB.out | apply below_alloc | apply pw_below_drewN | apply below_drew1 | refine below_set ?_ GE276.out | refine below_set ?_ GE309.out)) hb)
        clear HO281 HO291 HO301 HO307 HO313 HO317 BK276 BK309 HB
        have HO281 := n0_
        have HO291 := n1_
        have HO301 := n2_
        have HO307 := n3_
        have HO313 := n4_
        have HO317 := n5_
        have BK276 := n6_
        have BK309 := n7_
        have HB := n8_
        clear n0_ n1_ n2_ n3_ n4_ n5_ n6_ n7_ n8_
        (try clear hb); (try clear hb2); (try clear hk); (try clear hi)
        refine hK.out _ _ ⟨(blk_cell BK309.out 0).trans rfl, (blk_cell BK309.out 1).trans rfl, (blk_cell BK276.out 0).trans rfl, (blk_cell BK276.out 1).trans rfl⟩ (fun hHeld => ?_)
        clear hK K
        refine norm_ (a' := ?_) ?_ ?_
        rotate_left
        · show Act.put _ (some 80) _ = _
          simp only [Act.put, List.setIfInBounds_toArray, List.set_cons_zero, List.set_cons_succ, i64_w, i32_w]
          rfl
        refine pure_ (i := 12) (N := some 81) (v := ?_) (a' := ?_) #[tt, tt, tt, tt, tt, tt, tt, tt, tt, tt, tt, tt, tt, ff, ff, ff, ff, ff, ff, ff, ff, ff, ff, ff, ff] rfl rfl (any_of HT_.out (by kernel_rfl)) (fun _ _ _ h => h) (Or.inl ⟨by rfl, ?_⟩) ?_ ?_
        rotate_left
        · intro w'
          go_simp
          with_reducible rfl
        rotate_left
        · simp only [Act.put, List.setIfInBounds_toArray, List.set_cons_zero, List.set_cons_succ, i64_w, i32_w]
          rfl
        refine pure_ (i := 13) (N := some 82) (v := ?_) (a' := ?_) #[tt, tt, tt, tt, tt, tt, tt, tt, tt, tt, tt, tt, tt, tt, ff, ff, ff, ff, ff, ff, ff, ff, ff, ff, ff] rfl rfl (any_of HT_.out (by kernel_rfl)) (fun _ _ _ h => h) (Or.inl ⟨by rfl, ?_⟩) ?_ ?_
        rotate_left
        · intro w'
          go_simp
          with_reducible rfl
        rotate_left
        · simp only [Act.put, List.setIfInBounds_toArray, List.set_cons_zero, List.set_cons_succ, i64_w, i32_w]
          rfl
        refine pure_ (i := 14) (N := some 83) (v := undef) (a' := ?_) #[tt, tt, tt, tt, tt, tt, tt, tt, tt, tt, tt, tt, tt, tt, tt, ff, ff, ff, ff, ff, ff, ff, ff, ff, ff] rfl rfl (any_of HT_.out (by kernel_rfl)) (fun _ _ _ h => h) (Or.inr ⟨by rfl, rfl⟩) ?_ ?_
        rotate_left
        · simp only [Act.put, List.setIfInBounds_toArray, List.set_cons_zero, List.set_cons_succ, i64_w, i32_w]
          rfl
        refine pure_ (i := 15) (N := some 84) (v := undef) (a' := ?_) #[tt, tt, tt, tt, tt, tt, tt, tt, tt, tt, tt, tt, tt, tt, tt, tt, ff, ff, ff, ff, ff, ff, ff, ff, ff] rfl rfl (any_of HT_.out (by kernel_rfl)) (fun _ _ _ h => h) (Or.inr ⟨by rfl, rfl⟩) ?_ ?_
        rotate_left
        · simp only [Act.put, List.setIfInBounds_toArray, List.set_cons_zero, List.set_cons_succ, i64_w, i32_w]
          rfl
        refine pure_ (i := 16) (N := some 85) (v := undef) (a' := ?_) #[tt, tt, tt, tt, tt, tt, tt, tt, tt, tt, tt, tt, tt, tt, tt, tt, tt, ff, ff, ff, ff, ff, ff, ff, ff] rfl rfl (any_of HT_.out (by kernel_rfl)) (fun _ _ _ h => h) (Or.inr ⟨by rfl, rfl⟩) ?_ ?_
        rotate_left
        · simp only [Act.put, List.setIfInBounds_toArray, List.set_cons_zero, List.set_cons_succ, i64_w, i32_w]
          rfl
        refine pure_ (i := 17) (N := some 86) (v := undef) (a' := ?_) #[tt, tt, tt, tt, tt, tt, tt, tt, tt, tt, tt, tt, tt, tt, tt, tt, tt, tt, ff, ff, ff, ff, ff, ff, ff] rfl rfl (any_of HT_.out (by kernel_rfl)) (fun _ _ _ h => h) (Or.inr ⟨by rfl, rfl⟩) ?_ ?_
        rotate_left
        · simp only [Act.put, List.setIfInBounds_toArray, List.set_cons_zero, List.set_cons_succ, i64_w, i32_w]
          rfl
        refine pure_ (i := 18) (N := some 87) (v := undef) (a' := ?_) #[tt, tt, tt, tt, tt, tt, tt, tt, tt, tt, tt, tt, tt, tt, tt, tt, tt, tt, tt, ff, ff, ff, ff, ff, ff] rfl rfl (any_of HT_.out (by kernel_rfl)) (fun _ _ _ h => h) (Or.inr ⟨by rfl, rfl⟩) ?_ ?_
        rotate_left
        · simp only [Act.put, List.setIfInBounds_toArray, List.set_cons_zero, List.set_cons_succ, i64_w, i32_w]
          rfl
        refine pure_ (i := 19) (N := some 88) (v := undef) (a' := ?_) #[tt, tt, tt, tt, tt, tt, tt, tt, tt, tt, tt, tt, tt, tt, tt, tt, tt, tt, tt, tt, ff, ff, ff, ff, ff] rfl rfl (any_of HT_.out (by kernel_rfl)) (fun _ _ _ h => h) (Or.inr ⟨by rfl, rfl⟩) ?_ ?_
        rotate_left
        · simp only [Act.put, List.setIfInBounds_toArray, List.set_cons_zero, List.set_cons_succ, i64_w, i32_w]
          rfl
        refine pure_ (i := 20) (N := some 89) (v := undef) (a' := ?_) #[tt, tt, tt, tt, tt, tt, tt, tt, tt, tt, tt, tt, tt, tt, tt, tt, tt, tt, tt, tt, tt, ff, ff, ff, ff] rfl rfl (any_of HT_.out (by kernel_rfl)) (fun _ _ _ h => h) (Or.inr ⟨by rfl, rfl⟩) ?_ ?_
        rotate_left
        · simp only [Act.put, List.setIfInBounds_toArray, List.set_cons_zero, List.set_cons_succ, i64_w, i32_w]
          rfl
        refine pure_ (i := 21) (N := some 90) (v := undef) (a' := ?_) #[tt, tt, tt, tt, tt, tt, tt, tt, tt, tt, tt, tt, tt, tt, tt, tt, tt, tt, tt, tt, tt, tt, ff, ff, ff] rfl rfl (any_of HT_.out (by kernel_rfl)) (fun _ _ _ h => h) (Or.inr ⟨by rfl, rfl⟩) ?_ ?_
        rotate_left
        · simp only [Act.put, List.setIfInBounds_toArray, List.set_cons_zero, List.set_cons_succ, i64_w, i32_w]
          rfl
        refine pure_ (i := 22) (N := some 91) (v := ?_) (a' := ?_) #[tt, tt, tt, tt, tt, tt, tt, tt, tt, tt, tt, tt, tt, tt, tt, tt, tt, tt, tt, tt, tt, tt, tt, ff, ff] rfl rfl (any_of HT_.out (by kernel_rfl)) (fun _ _ _ h => h) (Or.inl ⟨by rfl, ?_⟩) ?_ ?_
        rotate_left
        · intro w'
          go_simp
          with_reducible rfl
        rotate_left
        · simp only [Act.put, List.setIfInBounds_toArray, List.set_cons_zero, List.set_cons_succ, i64_w, i32_w]
          rfl
        refine pure_ (i := 23) (N := some 92) (v := ?_) (a' := ?_) #[tt, tt, tt, tt, tt, tt, tt, tt, tt, tt, tt, tt, tt, tt, tt, tt, tt, tt, tt, tt, tt, tt, tt, tt, ff] rfl rfl (any_of HT_.out (by kernel_rfl)) (fun _ _ _ h => h) (Or.inl ⟨by rfl, ?_⟩) ?_ ?_
        rotate_left
        · intro w'
          go_simp
          with_reducible rfl
        rotate_left
        · simp only [Act.put, List.setIfInBounds_toArray, List.set_cons_zero, List.set_cons_succ, i64_w, i32_w]
          rfl
        refine pure_ (i := 24) (N := some 4) (v := ?_) (a' := ?_) #[tt, tt, tt, tt, tt, tt, tt, tt, tt, tt, tt, tt, tt, tt, tt, tt, tt, tt, tt, tt, tt, tt, tt, tt, tt] rfl rfl (any_of HT_.out (by kernel_rfl)) (fun _ _ _ h => h) (Or.inl ⟨by rfl, ?_⟩) ?_ ?_
        rotate_left
        · intro w'
          go_simp
          with_reducible rfl
        rotate_left
        · simp only [Act.put, List.setIfInBounds_toArray, List.set_cons_zero, List.set_cons_succ, i64_w, i32_w]
          rfl
        refine done_ (done_of HT_.out (by kernel_rfl)) ?_
        try go_wp2
        go_ret
        exact ⟨by first | rfl | (simp [errW_none, errW_some] <;> rfl) | (simp [*, errW_none, errW_some] <;> rfl), by with_reducible repeat (first | exact HB.out | apply below_alloc | apply pw_below_drewN | apply below_drew1 | refine below_set ?_ GE276.out | refine below_set ?_ GE309.out)⟩
      subst c59
      have H1 : (if 0 < (t305.length : Int) then (some ((((rd_T30 t305 0).f3).length : Int) == (((rd_T30 l0_1 0).f3).length : Int))) else (none)) = some r := by rw [if_pos rfl] at H; exact H
      clear H
      have H := H1
      clear H1
      by_cases c60 : 0 < (t305.length : Int)
      rotate_left
      · rw [if_neg c60] at H
        exact absurd H (by simp)
      rw [if_pos c60] at H
      have c60b0 : decide (0 < (t305.length : Int)) = true := decide_eq_true c60
      have c60b1 : decide (0 < t305.length) = true := decide_eq_true (by omega)
      clear c60
      obtain rfl := Option.some.inj H
      have hcz61_0 : wc.cell? ⟨gb276, 0, none⟩ = some (.int .u32 a0_0) := (blk_cell BK276.out 0).trans rfl
      have hcz61_1 : wc.cell? ⟨gb276, 1, none⟩ = some (.slice A0_1 l0_1.length c0_1) := (blk_cell BK276.out 1).trans rfl
      have hfz61_0 := blk_frozen BK276.out 0
      have hfz61_1 := blk_frozen BK276.out 1
      try go_wp2_with (first | ((with_reducible refine gate_callee (f := 11) rfl ?_); refine goesL_ (some 29) rfl rfl Try.func11 (by kernel_rfl) rfl #[.agg #[.int .u32 a0_0, .slice A0_1 l0_1.length c0_1]] rfl (by (try simp only [List.map_toArray, List.map_cons, List.map_nil]); first | done | rfl | (simp only [List.length_drop, List.length_take]; rfl)) ?_; (with_reducible refine (image_Put.calls kj4 a0_0 _ _ l0_1 t279 t282 _ ?side1 ?side2 A20.out).mono ?_); (case side1 => repeat (first | exact (Kd.C_below HR0_1.out HB.out) | (with_reducible refine Kd.C_alloc ?_ _) | (with_reducible refine Kd.C_drewN ?_ _) | (with_reducible refine Kd.C_drew ?_))); (case side2 => exact HC0_1.out); rintro e w62 ⟨v280, rfl, ho0, hb⟩; refine ⟨_, rfl, ?_⟩; have n0_ := Aside0.mk (Kd.R_lower ho0 (below_size (by with_reducible repeat (first | exact HB.out | apply below_alloc | apply pw_below_drewN | apply below_drew1 | refine below_set ?_ GE276.out)))); have n1_ := Aside0.mk (blk_below (g := gb276) (o := .cells #[.int .u32 a0_0, .slice A0_1 l0_1.length c0_1] 26 (0, 0)) (by (with_reducible repeat (first | refine blk_drewN ?_ _ | refine blk_drew ?_ | refine blk_alloc ?_ _)); exact BK276.out) hb); have n2_ := Aside0.mk (below_step (by with_reducible repeat (first | exact HB.out | apply below_alloc | apply pw_below_drewN | apply below_drew1 | refine below_set ?_ GE276.out)) hb); clear BK276; clear HB; have HO281 := n0_; have BK276 := n1_; have HB := n2_; clear n0_ n1_ n2_; (try clear hb); (try clear hb2); (try clear hk); (try clear hi); (try clear ho0); have hcz63_0 : w62.cell? ⟨gb276, 0, none⟩ = some (.int .u32 a0_0) := (blk_cell BK276.out 0).trans rfl; have hcz63_1 : w62.cell? ⟨gb276, 1, none⟩ = some (.slice A0_1 l0_1.length c0_1) := (blk_cell BK276.out 1).trans rfl; have hfz63_0 := blk_frozen BK276.out 0; have hfz63_1 := blk_frozen BK276.out 1; have p283 : 0 ≤ (0 : Int) := (by omega); have q283 : 0 < (l0_1.length : Int) := of_decide_eq_true (by assumption); obtain ⟨ad283, A283_3, c283_3, e283, hx283_0, hx283_1, hx283_2, hx283_3, hl283_3, hi283_3⟩ := at_T30 HR0_1.out 0 p283 q283; cases e283; have qi283 : (0 < l0_1.length) = True := eq_true (by omega); (try rw [show ((0 : Int)).toNat = 0 from rfl] at hx283_0); (try rw [show 0 * 4 = 0 from rfl] at hx283_0); (try rw [Addr.add_zero'] at hx283_0); (try rw [show ((0 : Int)).toNat = 0 from rfl] at hx283_1); (try rw [show 0 * 4 = 0 from rfl] at hx283_1); (try rw [Addr.add_zero'] at hx283_1); (try rw [show ((0 : Int)).toNat = 0 from rfl] at hx283_2); (try rw [show 0 * 4 = 0 from rfl] at hx283_2); (try rw [Addr.add_zero'] at hx283_2); (try rw [show ((0 : Int)).toNat = 0 from rfl] at hx283_3); (try rw [show 0 * 4 = 0 from rfl] at hx283_3); (try rw [Addr.add_zero'] at hx283_3); replace hx283_0 := (HB.out.cell (World.block_lt_of_cell? w _ hx283_0)).trans hx283_0; replace hx283_1 := (HB.out.cell (World.block_lt_of_cell? w _ hx283_1)).trans hx283_1; replace hx283_2 := (HB.out.cell (World.block_lt_of_cell? w _ hx283_2)).trans hx283_2; replace hx283_3 := (HB.out.cell (World.block_lt_of_cell? w _ hx283_3)).trans hx283_3; have HR283_3 := Aside0.mk hi283_3; have HC283_3 := Aside0.mk hl283_3; clear hi283_3 hl283_3; replace p283 := eq_true p283; replace q283 := eq_true q283))
      have n0_ := Aside0.mk (Kd.R_drew HO281.out)
      have n1_ := Aside0.mk (blk_drew BK276.out)
      have n2_ := Aside0.mk (below_drew1 HB.out)
      clear HO281 BK276 HB
      have HO281 := n0_
      have BK276 := n1_
      have HB := n2_
      clear n0_ n1_ n2_
      obtain ⟨Ao66, co66, eo66⟩ := Kd.R_slice HO281.out
      (first | subst eo66 | (injection eo66 with f1_ f2_ f3_; have f4_ := f1_.symm; have f5_ := f3_.symm; clear f1_ f2_ f3_; subst f4_; subst f5_))
      have q65 : (84 : Int) ≤ ((t279.length : Int) : Int) := of_decide_eq_true (by assumption)
      obtain ⟨i065, hi065, _, hsz65, _⟩ := info_parts info5
      have hroom65 : t279.length ≤ co66 := (Kd.R_reads' HO281.out).2.1
      have hC65 : Kd.F (Kd.int .u8) _ _ Ao66 t279.length t279 := (Kd.V_at (base := w.heap.size) (Kd.R_V (Kd.R_types (HO281.out) BK276.out (by decide)))).2.2
      have hcut65 := cut_to (P := Try.prog) 28 5 .i64 Try.underlying28 hi065 Ao66 t279.length co66 84 (by omega) q65 hroom65
      have hr65 := Kd.F_take (m := 84) hC65 (by omega)
      have hy65 : y287.length = (84 : Int).toNat := (by rw [Ny287.out, List.length_take]; omega)
      rw [← Ny287.out] at hr65
      rw [← hy65] at hcut65
      have HO291 := Aside0.mk (show Kd.V (Kd.int .u8) 5 _ w.heap.size _ (.slice Ao66 y287.length co66) y287 from Kd.V_mk (by omega) hr65)
      have HC291 := Aside0.mk (show y287.length ≤ co66 from by omega)
      clear hr65 hC65 hroom65 hi065 hsz65
      have KY65 := Aside0.mk hy65
      clear hy65
      replace q65 := eq_true q65
      have p298 : 0 ≤ (0 : Int) := (by omega)
      have q298 : 0 < (l0_1.length : Int) := of_decide_eq_true (by assumption)
      obtain ⟨ad298, A298_3, c298_3, e298, hx298_0, hx298_1, hx298_2, hx298_3, hl298_3, hi298_3⟩ := at_T30 HR0_1.out 0 p298 q298
      have hw298_3 := hx298_3
      (try rw [show ((0 : Int)).toNat = 0 from rfl] at hw298_3)
      (try rw [show 0 * 4 = 0 from rfl] at hw298_3)
      (try rw [Addr.add_zero'] at hw298_3)
      have hw298_2 := hx298_2
      (try rw [show ((0 : Int)).toNat = 0 from rfl] at hw298_2)
      (try rw [show 0 * 4 = 0 from rfl] at hw298_2)
      (try rw [Addr.add_zero'] at hw298_2)
      have hw298_1 := hx298_1
      (try rw [show ((0 : Int)).toNat = 0 from rfl] at hw298_1)
      (try rw [show 0 * 4 = 0 from rfl] at hw298_1)
      (try rw [Addr.add_zero'] at hw298_1)
      have hw298_0 := hx298_0
      (try rw [show ((0 : Int)).toNat = 0 from rfl] at hw298_0)
      (try rw [show 0 * 4 = 0 from rfl] at hw298_0)
      (try rw [Addr.add_zero'] at hw298_0)
      obtain rfl : ad283 = ad298 := (by injection e298)
      have qi298 : (0 < l0_1.length) = True := eq_true (by omega)
      (try rw [show ((0 : Int)).toNat = 0 from rfl] at hx298_0)
      (try rw [show 0 * 4 = 0 from rfl] at hx298_0)
      (try rw [Addr.add_zero'] at hx298_0)
      (try rw [show ((0 : Int)).toNat = 0 from rfl] at hx298_1)
      (try rw [show 0 * 4 = 0 from rfl] at hx298_1)
      (try rw [Addr.add_zero'] at hx298_1)
      (try rw [show ((0 : Int)).toNat = 0 from rfl] at hx298_2)
      (try rw [show 0 * 4 = 0 from rfl] at hx298_2)
      (try rw [Addr.add_zero'] at hx298_2)
      (try rw [show ((0 : Int)).toNat = 0 from rfl] at hx298_3)
      (try rw [show 0 * 4 = 0 from rfl] at hx298_3)
      (try rw [Addr.add_zero'] at hx298_3)
      replace hx298_0 := (HB.out.cell (World.block_lt_of_cell? w _ hx298_0)).trans hx298_0
      replace hx298_1 := (HB.out.cell (World.block_lt_of_cell? w _ hx298_1)).trans hx298_1
      replace hx298_2 := (HB.out.cell (World.block_lt_of_cell? w _ hx298_2)).trans hx298_2
      replace hx298_3 := (HB.out.cell (World.block_lt_of_cell? w _ hx298_3)).trans hx298_3
      have HR298_3 := Aside0.mk hi298_3
      have HC298_3 := Aside0.mk hl298_3
      clear hi298_3 hl298_3
      replace p298 := eq_true p298
      replace q298 := eq_true q298
      refine start_ (n := 13) (S := fun w' => w'.cell? ⟨gb276, 0, none⟩ = some (.int .u32 a0_0) ∧ w'.cell? ⟨gb276, 1, none⟩ = some (.slice (some ad283) l0_1.length c0_1) ∧ w'.cell? ad283 = some (.int .u32 ((rd_T30 l0_1 0).f0)) ∧ w'.cell? ⟨ad283.block, ad283.off + 1, none⟩ = some (.int .u32 ((rd_T30 l0_1 0).f1)) ∧ w'.cell? ⟨ad283.block, ad283.off + 2, none⟩ = some (.int .i64 ((rd_T30 l0_1 0).f2)) ∧ w'.cell? ⟨ad283.block, ad283.off + 3, none⟩ = some (.slice A298_3 ((rd_T30 l0_1 0).f3).length c298_3)) (ds := []) #[ff, ff, ff, ff, ff, ff, ff, ff, ff, ff, ff, ff, ff] (by kernel_rfl) rfl rfl ⟨(blk_cell BK276.out 0).trans rfl, (blk_cell BK276.out 1).trans rfl, ((HB.out.cell (World.block_lt_of_cell? w _ hw298_0)).trans hw298_0), ((HB.out.cell (World.block_lt_of_cell? w _ hw298_1)).trans hw298_1), ((HB.out.cell (World.block_lt_of_cell? w _ hw298_2)).trans hw298_2), ((HB.out.cell (World.block_lt_of_cell? w _ hw298_3)).trans hw298_3)⟩ (fun hHeld => ?_); refine with_tabW tincturelaw8_ImageMoved.tab9 tincturelaw8_ImageMoved.bits9 (fun HT_ HW_ => ?_)
      generalize w62.drew = w64 at HO281 BK276 HB HO291 HR298_3 hx298_0 hx298_1 hx298_2 hx298_3 hHeld ⊢
      refine pure_ (i := 1) (N := some 41) (v := ?_) (a' := ?_) #[ff, tt, ff, ff, ff, ff, ff, ff, ff, ff, ff, ff, ff] rfl rfl (any_of HT_.out (by kernel_rfl)) (fun _ _ _ h => h) (Or.inl ⟨by rfl, ?_⟩) ?_ ?_
      rotate_left
      · intro w'
        go_simp
        with_reducible rfl
      rotate_left
      · simp only [Act.put, List.setIfInBounds_toArray, List.set_cons_zero, List.set_cons_succ, i64_w, i32_w]
        rfl
      refine pure_ (i := 2) (N := some 42) (v := ?_) (a' := ?_) #[ff, tt, tt, ff, ff, ff, ff, ff, ff, ff, ff, ff, ff] rfl rfl (any_of HT_.out (by kernel_rfl)) (fun _ _ _ h => h) (Or.inl ⟨by rfl, ?_⟩) ?_ ?_
      rotate_left
      · intro w'
        go_simp
        with_reducible rfl
      rotate_left
      · simp only [Act.put, List.setIfInBounds_toArray, List.set_cons_zero, List.set_cons_succ, i64_w, i32_w]
        rfl
      refine pure_ (i := 4) (N := some 44) (v := ?_) (a' := ?_) #[ff, tt, tt, ff, tt, ff, ff, ff, ff, ff, ff, ff, ff] rfl rfl (any_of HT_.out (by kernel_rfl)) (fun _ _ _ h => h) (Or.inl ⟨by rfl, ?_⟩) ?_ ?_
      rotate_left
      · intro w'
        go_simp
        with_reducible rfl
      rotate_left
      · simp only [Act.put, List.setIfInBounds_toArray, List.set_cons_zero, List.set_cons_succ, i64_w, i32_w]
        rfl
      refine pure_ (i := 6) (N := some 46) (v := ?_) (a' := ?_) #[ff, tt, tt, ff, tt, ff, tt, ff, ff, ff, ff, ff, ff] rfl rfl (any_of HT_.out (by kernel_rfl)) (fun _ _ _ h => h) (Or.inl ⟨by rfl, ?_⟩) ?_ ?_
      rotate_left
      · intro w'
        go_simp
        with_reducible rfl
      rotate_left
      · simp only [Act.put, List.setIfInBounds_toArray, List.set_cons_zero, List.set_cons_succ, i64_w, i32_w]
        rfl
      refine take_ (i := 7) (N := some 47) (v := ?_) (a' := ?_) #[ff, tt, tt, ff, tt, ff, tt, tt, ff, ff, ff, ff, ff] rfl rfl (take_ofW HT_.out HW_.out (by kernel_rfl)) (fun _ _ _ h => h) (Or.inl ⟨by rfl, ?_⟩) hHeld ?_ ?_
      rotate_left
      · rintro w' ⟨s0, s1, s2, s3, s4, s5⟩
        go_simp
        with_reducible rfl
      rotate_left
      · simp only [Act.put, List.setIfInBounds_toArray, List.set_cons_zero, List.set_cons_succ, i64_w, i32_w]
        rfl
      refine pure_ (i := 8) (N := some 48) (v := ?_) (a' := ?_) #[ff, tt, tt, ff, tt, ff, tt, tt, tt, ff, ff, ff, ff] rfl rfl (any_of HT_.out (by kernel_rfl)) (fun _ _ _ h => h) (Or.inl ⟨by rfl, ?_⟩) ?_ ?_
      rotate_left
      · intro w'
        go_simp
        with_reducible rfl
      rotate_left
      · simp only [Act.put, List.setIfInBounds_toArray, List.set_cons_zero, List.set_cons_succ, i64_w, i32_w]
        rfl
      refine pure_ (i := 9) (N := some 49) (v := ?_) (a' := ?_) #[ff, tt, tt, ff, tt, ff, tt, tt, tt, tt, ff, ff, ff] rfl rfl (any_of HT_.out (by kernel_rfl)) (fun _ _ _ h => h) (Or.inl ⟨by rfl, ?_⟩) ?_ ?_
      rotate_left
      · intro w'
        go_simp
        with_reducible rfl
      rotate_left
      · simp only [Act.put, List.setIfInBounds_toArray, List.set_cons_zero, List.set_cons_succ, i64_w, i32_w]
        rfl
      refine take_ (i := 10) (N := some 50) (v := ?_) (a' := ?_) #[ff, tt, tt, ff, tt, ff, tt, tt, tt, tt, tt, ff, ff] rfl rfl (take_ofW HT_.out HW_.out (by kernel_rfl)) (fun _ _ _ h => h) (Or.inl ⟨by rfl, ?_⟩) hHeld ?_ ?_
      rotate_left
      · rintro w' ⟨s0, s1, s2, s3, s4, s5⟩
        go_simp
        with_reducible rfl
      rotate_left
      · simp only [Act.put, List.setIfInBounds_toArray, List.set_cons_zero, List.set_cons_succ, i64_w, i32_w]
        rfl
      refine one_ (i := 0) (N := some 40) #[tt, tt, tt, ff, tt, ff, tt, tt, tt, tt, tt, ff, ff] rfl rfl (one_of HT_.out (by kernel_rfl)) (by decide) (fun K hK => ?_)
      refine Kd.R_lit_step (Kd.int .u8) _ 5 ?hg (N := 40) ?hd (xs := ([] : List Int)) (inner := []) (ok := fun _ => True) (okp := fun _ => True) ?hr ?hp (fun _ hk => hk) trivial (Below.refl _ _) (Nat.le_refl _) (by simp) ?_; (case hd => rfl); (case hg => rfl); (case hr => first | (go_simp; done) | (go_simp; rfl)); (case hp => exact (Reps.none _ _))
      intro v285 w67 ho68 hb hg_ hnew_
      clear hg_ hnew_
      (first | rw [← Ny284.out] at ho68 | (simp only [Int.reduceToNat] at ho68; rw [← Ny284.out] at ho68))
      have n0_ := Aside0.mk (Kd.R_elder' (by (with_reducible repeat (first | apply Kd.R_alloc | apply Kd.R_drewN | apply Kd.R_drew)); exact HO281.out) (Kd.R_base ho68) hb)
      have n1_ := Aside0.mk (Kd.V_elder' (by (with_reducible repeat (first | apply Kd.V_alloc | apply Kd.V_drewN | apply Kd.V_drew)); exact HO291.out) (Kd.R_base ho68) hb)
      have n2_ := Aside0.mk (Kd.R_lower (Kd.R_new' ho68 (Kd.R_lt (by (with_reducible repeat (first | apply Kd.R_alloc | apply Kd.R_drewN | apply Kd.R_drew)); exact HO281.out))) (below_size (by with_reducible repeat (first | exact HB.out | apply below_alloc | apply pw_below_drewN | apply below_drew1 | refine below_set ?_ GE276.out))))
      have n3_ := Aside0.mk (blk_below (g := gb276) (o := .cells #[.int .u32 a0_0, .slice (some ad283) l0_1.length c0_1] 26 (0, 0)) (by (with_reducible repeat (first | refine blk_drewN ?_ _ | refine blk_drew ?_ | refine blk_alloc ?_ _)); exact BK276.out) hb)
      have n4_ := Aside0.mk (below_step (by with_reducible repeat (first | exact HB.out | apply below_alloc | apply pw_below_drewN | apply below_drew1 | refine below_set ?_ GE276.out)) hb)
      clear HO281 HO291 BK276 HB
      have HO281 := n0_
      have HO291 := n1_
      have HO286 := n2_
      have BK276 := n3_
      have HB := n4_
      clear n0_ n1_ n2_ n3_ n4_ hb ho68
      refine hK.out _ _ ⟨(blk_cell BK276.out 0).trans rfl, (blk_cell BK276.out 1).trans rfl, ((HB.out.cell (World.block_lt_of_cell? w _ hw298_0)).trans hw298_0), ((HB.out.cell (World.block_lt_of_cell? w _ hw298_1)).trans hw298_1), ((HB.out.cell (World.block_lt_of_cell? w _ hw298_2)).trans hw298_2), ((HB.out.cell (World.block_lt_of_cell? w _ hw298_3)).trans hw298_3)⟩ (fun hHeld => ?_)
      clear hK K
      refine norm_ (a' := ?_) ?_ ?_
      rotate_left
      · show Act.put _ (some 40) _ = _
        simp only [Act.put, List.setIfInBounds_toArray, List.set_cons_zero, List.set_cons_succ, i64_w, i32_w]
        rfl
      refine one_ (i := 3) (N := some 43) #[tt, tt, tt, tt, tt, ff, tt, tt, tt, tt, tt, ff, ff] rfl rfl (one_of HT_.out (by kernel_rfl)) (by decide) (fun K hK => ?_)
      refine Kd.R_append_rows_step (Kd.int .u8) (w0 := w) w.heap.size (by rfl) (.tmp 40) (.tmp 42) 28 5 (.int .u8 0) 1 rfl Try.underlying28 info5 rfl (by decide) (by omega) v285 y284 y287 _ _ _ (fun k_ => some k_ ≠ (.slice Ao66 t279.length co66 : Value).ownBlock) (fun _ => False) rfl rfl ?aO ?aR (fun _ _ h => h) (fun _ h => h.elim) ?aF ?aB ?aS ?aL ?_
      (case aR => repeat (first | exact (Kd.V_reads' HO291.out).2.2 | (with_reducible refine Kd.C_alloc ?_ _) | (with_reducible refine Kd.C_drewN ?_ _) | (with_reducible refine Kd.C_drew ?_)))
      (case aB => exact (by with_reducible repeat (first | exact HB.out | apply below_alloc | apply pw_below_drewN | apply below_drew1 | refine below_set ?_ GE276.out)))
      (case aF => exact (fun k_ hk => Kd.fresh' (Kd.R_lt (by (with_reducible repeat (first | apply Kd.R_alloc | apply Kd.R_drewN | apply Kd.R_drew)); exact HO281.out)) k_ hk))
      (case aO => exact (by (with_reducible repeat (first | apply Kd.R_alloc | apply Kd.R_drewN | apply Kd.R_drew)); exact Kd.R_mono HO286.out (fun _ hk => hk.2)))
      (case aS => exact (below_size (by with_reducible repeat (first | exact HB.out | apply below_alloc | apply pw_below_drewN | apply below_drew1 | refine below_set ?_ GE276.out))))
      (case aL => have := LMc24.out; omega)
      intro v293 w69 ho hb hg hat
      rw [← Ny292.out] at ho
      have n0_ := Aside0.mk (blk_grown (g := gb276) (o := .cells #[.int .u32 a0_0, .slice (some ad283) l0_1.length c0_1] 26 (0, 0)) (by (with_reducible repeat (first | refine blk_drewN ?_ _ | refine blk_drew ?_ | refine blk_alloc ?_ _)); exact BK276.out) hg (Kd.R_ne HO286.out BK276.out (by decide)))
      have n1_ := Aside0.mk (Kd.R_after (ok := (fun _ => True)) (by (with_reducible repeat (first | apply Kd.R_alloc | apply Kd.R_drewN | apply Kd.R_drew)); exact HO281.out) hg hat)
      have n2_ := Aside0.mk (Kd.V_afterv (ok := (fun k_ => k_ ≠ gb276)) (by (with_reducible repeat (first | apply Kd.V_alloc | apply Kd.V_drewN | apply Kd.V_drew)); exact Kd.V_mono HO291.out (fun _ hk => ⟨hk.1.2, hk.2⟩)) hg hat)
      have n3_ := Aside0.mk (hb)
      have n4_ := Aside0.mk (ho)
      clear BK276 HO281 HO291 HB HO286
      have BK276 := n0_
      have HO281 := n1_
      have HO291 := n2_
      have HB := n3_
      have HO294 := n4_
      clear n0_ n1_ n2_ n3_ n4_ ho hb hg hat
      refine hK.out _ _ ⟨(blk_cell BK276.out 0).trans rfl, (blk_cell BK276.out 1).trans rfl, ((HB.out.cell (World.block_lt_of_cell? w _ hw298_0)).trans hw298_0), ((HB.out.cell (World.block_lt_of_cell? w _ hw298_1)).trans hw298_1), ((HB.out.cell (World.block_lt_of_cell? w _ hw298_2)).trans hw298_2), ((HB.out.cell (World.block_lt_of_cell? w _ hw298_3)).trans hw298_3)⟩ (fun hHeld => ?_)
      clear hK K
      refine norm_ (a' := ?_) ?_ ?_
      rotate_left
      · show Act.put _ (some 43) _ = _
        simp only [Act.put, List.setIfInBounds_toArray, List.set_cons_zero, List.set_cons_succ, i64_w, i32_w]
        rfl
      refine one_ (i := 5) (N := some 45) #[tt, tt, tt, tt, tt, tt, tt, tt, tt, tt, tt, ff, ff] rfl rfl (one_of HT_.out (by kernel_rfl)) (by decide) (fun K hK => ?_)
      refine Kd.R_append_rows_step (Kd.int .u8) (w0 := w) w.heap.size (by rfl) (.tmp 43) (.tmp 44) 28 5 (.int .u8 0) 1 rfl Try.underlying28 info5 rfl (by decide) (by omega) v293 y292 l1 _ _ _ (fun k_ => some k_ ≠ (.slice Ao66 t279.length co66 : Value).ownBlock) (fun _ => False) rfl rfl ?aO ?aR (fun _ _ h => h) (fun _ h => h.elim) ?aF ?aB ?aS ?aL ?_
      (case aR => repeat (first | exact (Kd.C_below HR1.out HB.out) | (with_reducible refine Kd.C_alloc ?_ _) | (with_reducible refine Kd.C_drewN ?_ _) | (with_reducible refine Kd.C_drew ?_)))
      (case aB => exact (by with_reducible repeat (first | exact HB.out | apply below_alloc | apply pw_below_drewN | apply below_drew1 | refine below_set ?_ GE276.out)))
      (case aF => exact (fun k_ hk => Kd.fresh' (Kd.R_lt (by (with_reducible repeat (first | apply Kd.R_alloc | apply Kd.R_drewN | apply Kd.R_drew)); exact HO281.out)) k_ hk))
      (case aO => exact (by (with_reducible repeat (first | apply Kd.R_alloc | apply Kd.R_drewN | apply Kd.R_drew)); exact HO294.out))
      (case aS => exact (below_size (by with_reducible repeat (first | exact HB.out | apply below_alloc | apply pw_below_drewN | apply below_drew1 | refine below_set ?_ GE276.out))))
      (case aL => have := LMc25.out; omega)
      intro v296 w70 ho hb hg hat
      rw [← Ny295.out] at ho
      have n0_ := Aside0.mk (blk_grown (g := gb276) (o := .cells #[.int .u32 a0_0, .slice (some ad283) l0_1.length c0_1] 26 (0, 0)) (by (with_reducible repeat (first | refine blk_drewN ?_ _ | refine blk_drew ?_ | refine blk_alloc ?_ _)); exact BK276.out) hg (Kd.R_ne HO294.out BK276.out (by decide)))
      have n1_ := Aside0.mk (Kd.R_after (ok := (fun _ => True)) (by (with_reducible repeat (first | apply Kd.R_alloc | apply Kd.R_drewN | apply Kd.R_drew)); exact HO281.out) hg hat)
      have n2_ := Aside0.mk (Kd.V_afterv (ok := (fun k_ => k_ ≠ gb276)) (by (with_reducible repeat (first | apply Kd.V_alloc | apply Kd.V_drewN | apply Kd.V_drew)); exact HO291.out) hg hat)
      have n3_ := Aside0.mk (hb)
      have n4_ := Aside0.mk (ho)
      clear BK276 HO281 HO291 HB HO294
      have BK276 := n0_
      have HO281 := n1_
      have HO291 := n2_
      have HB := n3_
      have HO297 := n4_
      clear n0_ n1_ n2_ n3_ n4_ ho hb hg hat
      refine hK.out _ _ ⟨(blk_cell BK276.out 0).trans rfl, (blk_cell BK276.out 1).trans rfl, ((HB.out.cell (World.block_lt_of_cell? w _ hw298_0)).trans hw298_0), ((HB.out.cell (World.block_lt_of_cell? w _ hw298_1)).trans hw298_1), ((HB.out.cell (World.block_lt_of_cell? w _ hw298_2)).trans hw298_2), ((HB.out.cell (World.block_lt_of_cell? w _ hw298_3)).trans hw298_3)⟩ (fun hHeld => ?_)
      clear hK K
      refine norm_ (a' := ?_) ?_ ?_
      rotate_left
      · show Act.put _ (some 45) _ = _
        simp only [Act.put, List.setIfInBounds_toArray, List.set_cons_zero, List.set_cons_succ, i64_w, i32_w]
        rfl
      refine one_ (i := 11) (N := some 51) #[tt, tt, tt, tt, tt, tt, tt, tt, tt, tt, tt, tt, ff] rfl rfl (one_of HT_.out (by kernel_rfl)) (by decide) (fun K hK => ?_)
      refine Kd.R_append_rows_step (Kd.int .u8) (w0 := w) w.heap.size (by rfl) (.tmp 45) (.tmp 50) 28 5 (.int .u8 0) 1 rfl Try.underlying28 info5 rfl (by decide) (by omega) v296 y295 ((rd_T30 l0_1 0).f3) _ _ _ (fun k_ => some k_ ≠ (.slice Ao66 t279.length co66 : Value).ownBlock) (fun _ => False) rfl rfl ?aO ?aR (fun _ _ h => h) (fun _ h => h.elim) ?aF ?aB ?aS ?aL ?_
      (case aR => repeat (first | exact (Kd.C_below HR298_3.out HB.out) | (with_reducible refine Kd.C_alloc ?_ _) | (with_reducible refine Kd.C_drewN ?_ _) | (with_reducible refine Kd.C_drew ?_)))
      (case aB => exact (by with_reducible repeat (first | exact HB.out | apply below_alloc | apply pw_below_drewN | apply below_drew1 | refine below_set ?_ GE276.out)))
      (case aF => exact (fun k_ hk => Kd.fresh' (Kd.R_lt (by (with_reducible repeat (first | apply Kd.R_alloc | apply Kd.R_drewN | apply Kd.R_drew)); exact HO281.out)) k_ hk))
      (case aO => exact (by (with_reducible repeat (first | apply Kd.R_alloc | apply Kd.R_drewN | apply Kd.R_drew)); exact HO297.out))
      (case aS => exact (below_size (by with_reducible repeat (first | exact HB.out | apply below_alloc | apply pw_below_drewN | apply below_drew1 | refine below_set ?_ GE276.out))))
      (case aL => have := LMc26.out; omega)
      intro v300 w71 ho hb hg hat
      rw [← Ny299.out] at ho
      have n0_ := Aside0.mk (blk_grown (g := gb276) (o := .cells #[.int .u32 a0_0, .slice (some ad283) l0_1.length c0_1] 26 (0, 0)) (by (with_reducible repeat (first | refine blk_drewN ?_ _ | refine blk_drew ?_ | refine blk_alloc ?_ _)); exact BK276.out) hg (Kd.R_ne HO297.out BK276.out (by decide)))
      have n1_ := Aside0.mk (Kd.R_after (ok := (fun _ => True)) (by (with_reducible repeat (first | apply Kd.R_alloc | apply Kd.R_drewN | apply Kd.R_drew)); exact HO281.out) hg hat)
      have n2_ := Aside0.mk (Kd.V_afterv (ok := (fun k_ => k_ ≠ gb276)) (by (with_reducible repeat (first | apply Kd.V_alloc | apply Kd.V_drewN | apply Kd.V_drew)); exact HO291.out) hg hat)
      have n3_ := Aside0.mk (hb)
      have n4_ := Aside0.mk (ho)
      clear BK276 HO281 HO291 HB HO297
      have BK276 := n0_
      have HO281 := n1_
      have HO291 := n2_
      have HB := n3_
      have HO301 := n4_
      clear n0_ n1_ n2_ n3_ n4_ ho hb hg hat
      refine hK.out _ _ ⟨(blk_cell BK276.out 0).trans rfl, (blk_cell BK276.out 1).trans rfl, ((HB.out.cell (World.block_lt_of_cell? w _ hw298_0)).trans hw298_0), ((HB.out.cell (World.block_lt_of_cell? w _ hw298_1)).trans hw298_1), ((HB.out.cell (World.block_lt_of_cell? w _ hw298_2)).trans hw298_2), ((HB.out.cell (World.block_lt_of_cell? w _ hw298_3)).trans hw298_3)⟩ (fun hHeld => ?_)
      clear hK K
      refine norm_ (a' := ?_) ?_ ?_
      rotate_left
      · show Act.put _ (some 51) _ = _
        simp only [Act.put, List.setIfInBounds_toArray, List.set_cons_zero, List.set_cons_succ, i64_w, i32_w]
        rfl
      refine pure_ (i := 12) (N := some 8) (v := ?_) (a' := ?_) #[tt, tt, tt, tt, tt, tt, tt, tt, tt, tt, tt, tt, tt] rfl rfl (any_of HT_.out (by kernel_rfl)) (fun _ _ _ h => h) (Or.inl ⟨by rfl, ?_⟩) ?_ ?_
      rotate_left
      · intro w'
        go_simp
        with_reducible rfl
      rotate_left
      · simp only [Act.put, List.setIfInBounds_toArray, List.set_cons_zero, List.set_cons_succ, i64_w, i32_w]
        rfl
      refine done_ (done_of HT_.out (by kernel_rfl)) ?_
      have p28 : 0 ≤ (56 : Int) := (by omega)
      have q28 : (56 : Int) < ((y299.length : Int) : Int) := of_decide_eq_true (by assumption)
      have qi28 : (56 < y299.length) = True := eq_true (by omega)
      obtain ⟨go28, co28, eo28, gb28, gl28, cl28, HG28⟩ := Kd.R_form HO301.out (by omega)
      (first | cases eo28 | (injection eo28 with ea_ en_ ec_; (first | subst ea_ | (injection ea_ with ea_; subst ea_)); subst ec_; clear en_))
      have GB28 := Aside0.mk gb28
      have GG28 := Aside0.mk HG28
      clear gb28 gl28 HG28
      obtain ⟨hx28_0, hf28_0⟩ := Kd.R_celln 0 HO301.out (56 : Int) p28 q28
      (try rw [show ((56 : Int)).toNat = 56 from rfl] at hx28_0)
      (try simp only [Nat.reduceMul, Nat.zero_mul, Nat.zero_add, Nat.reduceAdd] at hx28_0)
      (try rw [show ((56 : Int)).toNat = 56 from rfl] at hf28_0)
      (try simp only [Nat.reduceMul, Nat.zero_mul, Nat.zero_add, Nat.reduceAdd] at hf28_0)
      replace p28 := eq_true p28
      replace q28 := eq_true q28
      obtain ⟨hy72_, hz72_⟩ := Kd.R_celln 0 HO301.out (56 : Int) (by omega) (of_decide_eq_true (by assumption))
      (try simp only [Int.reduceToNat, Int.toNat_zero, Int.toNat_ofNat, Nat.reduceMul, Nat.zero_mul, Nat.zero_add] at hy72_ hz72_)
      (try rw [show ((56 : Int)).toNat = 56 from rfl] at hy72_)
      (try rw [show ((56 : Int)).toNat = 56 from rfl] at hz72_)
      have HP72 := Kd.R_putg HO301.out (56 : Int) ((wrap64 (84 + (l1.length : Int))) % 256)
      try go_wp2_with (first | ((with_reducible refine gate_store (t := 5) (p := 62) rfl ?_); refine store_event (t := 5) (p := 62) (v := ?vo_w73) (w1 := (w71.setCell ⟨go28, (56 : Int).toNat, none⟩ (.int .u8 ((wrap64 (84 + (l1.length : Int))) % 256)))) ?hg ?ho ?hn ?hr ?_; (case ho => rfl); (case hg => rfl); (case hn => rfl); (case hr => first | (go_simp; done) | (go_simp; rfl)); intro w73 hw; have hg : w71.grownBy w73 (some go28) := (by rw [hw]; exact HP72.2); have hp_ : Kd.R (Kd.int .u8) 5 w73 w.heap.size (fun k_ => some k_ ≠ (.slice Ao66 t279.length co66 : Value).ownBlock) (.slice (some ⟨go28, 0, none⟩) y299.length co28) y302 := (by rw [hw, Ny302.out]; exact HP72.1); clear HP72; have n0_ := Aside0.mk (blk_grown (g := gb276) (o := .cells #[.int .u32 a0_0, .slice (some ad283) l0_1.length c0_1] 26 (0, 0)) (by (with_reducible repeat (first | refine blk_drewN ?_ _ | refine blk_drew ?_ | refine blk_alloc ?_ _)); exact BK276.out) hg (Kd.R_ne HO301.out BK276.out (by decide))); have n1_ := Aside0.mk (Kd.R_after (v := (.slice (some ⟨go28, 0, none⟩) y299.length co28)) (v1 := (.slice (some ⟨go28, 0, none⟩) y299.length co28)) (ok := (fun _ => True)) (by (with_reducible repeat (first | apply Kd.R_alloc | apply Kd.R_drewN | apply Kd.R_drew)); exact HO281.out) hg (.inl rfl)); have n2_ := Aside0.mk (Kd.V_afterv (v := (.slice (some ⟨go28, 0, none⟩) y299.length co28)) (v1 := (.slice (some ⟨go28, 0, none⟩) y299.length co28)) (ok := (fun k_ => k_ ≠ gb276)) (by (with_reducible repeat (first | apply Kd.V_alloc | apply Kd.V_drewN | apply Kd.V_drew)); exact HO291.out) hg (.inl rfl)); have n3_ := Aside0.mk (hp_); have n4_ := Aside0.mk ((by rw [hw]; exact below_set (HB.out) GB28.out : Below w.heap.size w w73)); clear BK276; clear HO281; clear HO291; clear HO301; clear HB; have BK276 := n0_; have HO281 := n1_; have HO291 := n2_; have HO301 := n3_; have HB := n4_; clear n0_ n1_ n2_ n3_ n4_; clear hg hw hp_; have p30 : 0 ≤ (57 : Int) := (by omega); have q30 : (57 : Int) < ((y299.length : Int) : Int) := of_decide_eq_true (by assumption); have qi30 : (57 < y299.length) = True := eq_true (by omega); obtain ⟨hx30_0, hf30_0⟩ := Kd.R_celln 0 HO301.out (57 : Int) p30 q30; (try rw [show ((57 : Int)).toNat = 57 from rfl] at hx30_0); (try simp only [Nat.reduceMul, Nat.zero_mul, Nat.zero_add, Nat.reduceAdd] at hx30_0); (try rw [show ((57 : Int)).toNat = 57 from rfl] at hf30_0); (try simp only [Nat.reduceMul, Nat.zero_mul, Nat.zero_add, Nat.reduceAdd] at hf30_0); replace p30 := eq_true p30; replace q30 := eq_true q30; obtain ⟨hy74_, hz74_⟩ := Kd.R_celln 0 HO301.out (57 : Int) (by omega) (of_decide_eq_true (by assumption)); (try simp only [Int.reduceToNat, Int.toNat_zero, Int.toNat_ofNat, Nat.reduceMul, Nat.zero_mul, Nat.zero_add] at hy74_ hz74_); (try rw [show ((57 : Int)).toNat = 57 from rfl] at hy74_); (try rw [show ((57 : Int)).toNat = 57 from rfl] at hz74_); have HP74 := Kd.R_putg HO301.out (57 : Int) (((wrap64 (84 + (l1.length : Int))) / 256) % 256)) | ((with_reducible refine gate_store (t := 5) (p := 63) rfl ?_); refine store_event (t := 5) (p := 63) (v := ?vo_w75) (w1 := (w73.setCell ⟨go28, (57 : Int).toNat, none⟩ (.int .u8 (((wrap64 (84 + (l1.length : Int))) / 256) % 256)))) ?hg ?ho ?hn ?hr ?_; (case ho => rfl); (case hg => rfl); (case hn => rfl); (case hr => first | (go_simp; done) | (go_simp; rfl)); intro w75 hw; have hg : w73.grownBy w75 (some go28) := (by rw [hw]; exact HP74.2); have hp_ : Kd.R (Kd.int .u8) 5 w75 w.heap.size (fun k_ => some k_ ≠ (.slice Ao66 t279.length co66 : Value).ownBlock) (.slice (some ⟨go28, 0, none⟩) y299.length co28) y303 := (by rw [hw, Ny303.out]; exact HP74.1); clear HP74; have n0_ := Aside0.mk (blk_grown (g := gb276) (o := .cells #[.int .u32 a0_0, .slice (some ad283) l0_1.length c0_1] 26 (0, 0)) (by (with_reducible repeat (first | refine blk_drewN ?_ _ | refine blk_drew ?_ | refine blk_alloc ?_ _)); exact BK276.out) hg (Kd.R_ne HO301.out BK276.out (by decide))); have n1_ := Aside0.mk (Kd.R_after (v := (.slice (some ⟨go28, 0, none⟩) y299.length co28)) (v1 := (.slice (some ⟨go28, 0, none⟩) y299.length co28)) (ok := (fun _ => True)) (by (with_reducible repeat (first | apply Kd.R_alloc | apply Kd.R_drewN | apply Kd.R_drew)); exact HO281.out) hg (.inl rfl)); have n2_ := Aside0.mk (Kd.V_afterv (v := (.slice (some ⟨go28, 0, none⟩) y299.length co28)) (v1 := (.slice (some ⟨go28, 0, none⟩) y299.length co28)) (ok := (fun k_ => k_ ≠ gb276)) (by (with_reducible repeat (first | apply Kd.V_alloc | apply Kd.V_drewN | apply Kd.V_drew)); exact HO291.out) hg (.inl rfl)); have n3_ := Aside0.mk (hp_); have n4_ := Aside0.mk ((by rw [hw]; exact below_set (HB.out) GB28.out : Below w.heap.size w w75)); clear BK276; clear HO281; clear HO291; clear HO301; clear HB; have BK276 := n0_; have HO281 := n1_; have HO291 := n2_; have HO301 := n3_; have HB := n4_; clear n0_ n1_ n2_ n3_ n4_; clear hg hw hp_) | ((with_reducible refine gate_callee (f := 10) rfl ?_); refine goesL_ (some 66) rfl rfl Try.func10 (by kernel_rfl) rfl #[.slice (some ⟨go28, 0, none⟩) y303.length co28] rfl (by (try simp only [List.map_toArray, List.map_cons, List.map_nil]); first | done | (rw [show y303.length = y299.length from (Kd.R_reads' HO301.out).1.symm] <;> rfl) | rfl | (simp only [List.length_drop, List.length_take]; rfl)) ?_; (with_reducible refine (image_Get.calls kj4 _ _ y303 t304 t305 t308 _ ?side1 ?side2 A31.out).mono ?_); (case side1 => repeat (first | exact (Kd.R_reads' HO301.out).2.2 | (with_reducible refine Kd.C_alloc ?_ _) | (with_reducible refine Kd.C_drewN ?_ _) | (with_reducible refine Kd.C_drew ?_))); (case side2 => rw [show y303.length = y299.length from (Kd.R_reads' HO301.out).1.symm]; exact (Kd.R_reads' HO301.out).2.1); rintro e w76 ⟨v306, rfl, ho0, hb⟩; refine ⟨_, rfl, ?_⟩; have n0_ := Aside0.mk (Kd.R_below (by (with_reducible repeat (first | apply Kd.R_alloc | apply Kd.R_drewN | apply Kd.R_drew)); exact HO281.out) hb); have n1_ := Aside0.mk (Kd.V_elder' (by (with_reducible repeat (first | apply Kd.V_alloc | apply Kd.V_drewN | apply Kd.V_drew)); exact HO291.out) (by first | exact Kd.N_base ho0 | exact Kd.N_base (Kd.S_N (Kd.S_bound ho0))) hb); have n2_ := Aside0.mk (Kd.R_below (by (with_reducible repeat (first | apply Kd.R_alloc | apply Kd.R_drewN | apply Kd.R_drew)); exact HO301.out) hb); have n3_ := Aside0.mk (Kd.N_lower (Kd.N_mono (ok' := fun k_ => some k_ ≠ (.slice Ao66 t279.length co66 : Value).ownBlock ∧ some k_ ≠ (.slice (some ⟨go28, 0, none⟩) y299.length co28 : Value).ownBlock ∧ k_ ≠ gb276) (Kd.S_N (Kd.S_bound ho0)) (fun k_ hk_ => ⟨(Kd.fresh' (Kd.R_lt (by (with_reducible repeat (first | apply Kd.R_alloc | apply Kd.R_drewN | apply Kd.R_drew)); exact HO281.out)) k_ hk_.2.1), (Kd.fresh' (Kd.R_lt (by (with_reducible repeat (first | apply Kd.R_alloc | apply Kd.R_drewN | apply Kd.R_drew)); exact HO301.out)) k_ hk_.2.1), (Kd.freshB (g := gb276) (o := .cells #[.int .u32 a0_0, .slice (some ad283) l0_1.length c0_1] 26 (0, 0)) (by (with_reducible repeat (first | refine blk_drewN ?_ _ | refine blk_drew ?_ | refine blk_alloc ?_ _)); exact BK276.out) k_ hk_.2.1)⟩)) (below_size (by with_reducible repeat (first | exact HB.out | apply below_alloc | apply pw_below_drewN | apply below_drew1 | refine below_set ?_ GE276.out)))); have n4_ := Aside0.mk (blk_below (g := gb276) (o := .cells #[.int .u32 a0_0, .slice (some ad283) l0_1.length c0_1] 26 (0, 0)) (by (with_reducible repeat (first | refine blk_drewN ?_ _ | refine blk_drew ?_ | refine blk_alloc ?_ _)); exact BK276.out) hb); have n5_ := Aside0.mk (below_step (by with_reducible repeat (first | exact HB.out | apply below_alloc | apply pw_below_drewN | apply below_drew1 | refine below_set ?_ GE276.out)) hb); clear HO281; clear HO291; clear HO301; clear BK276; clear HB; have HO281 := n0_; have HO291 := n1_; have HO301 := n2_; have HO307 := n3_; have BK276 := n4_; have HB := n5_; clear n0_ n1_ n2_ n3_ n4_ n5_; (try clear hb); (try clear hb2); (try clear hk); (try clear hi); (try clear ho0)) | ((with_reducible refine gate_dst (N := 10) rfl ?_); (try (refine gate_guard (by rfl) ?_; dsimp only)); refine box_event ?hg (N := 10) ?hd (cs := #[.int .u32 0, .slice none 0 0]) (t := 26) ?hr ?_; (case hd => rfl); (case hg => rfl); (case hr => first | (go_simp; done) | (go_simp; rfl)); intro gb309 hg w77 hbox hb; have n0_ := Aside0.mk (Kd.R_below (by (with_reducible repeat (first | apply Kd.R_alloc | apply Kd.R_drewN | apply Kd.R_drew)); exact HO281.out) hb); have n1_ := Aside0.mk (Kd.V_below (Kd.V_elderB (by (with_reducible repeat (first | apply Kd.V_alloc | apply Kd.V_drewN | apply Kd.V_drew)); exact HO291.out) gb309 (Nat.le_of_eq hg.symm)) hb); have n2_ := Aside0.mk (Kd.R_below (by (with_reducible repeat (first | apply Kd.R_alloc | apply Kd.R_drewN | apply Kd.R_drew)); exact HO301.out) hb); have n3_ := Aside0.mk (Kd.N_below (Kd.N_elderB (by (with_reducible repeat (first | apply Kd.N_alloc | apply Kd.N_drewN | apply Kd.N_drew)); exact HO307.out) gb309 (Nat.le_of_eq hg.symm)) hb); have n4_ := Aside0.mk (blk_below (g := gb276) (o := .cells #[.int .u32 a0_0, .slice (some ad283) l0_1.length c0_1] 26 (0, 0)) (by (with_reducible repeat (first | refine blk_drewN ?_ _ | refine blk_drew ?_ | refine blk_alloc ?_ _)); exact BK276.out) hb); have n5_ := Aside0.mk (below_step (by with_reducible repeat (first | exact HB.out | apply below_alloc | apply pw_below_drewN | apply below_drew1 | refine below_set ?_ GE276.out)) hb); have n6_ := Aside0.mk (hbox); have n7_ := Aside0.mk ((by rw [hg]; exact (below_size (by with_reducible repeat (first | exact HB.out | apply below_alloc | apply pw_below_drewN | apply below_drew1 | refine below_set ?_ GE276.out))) : w.heap.size ≤ gb309)); have n8_ := Aside0.mk ((by rw [hg]; exact (below_size (by with_reducible repeat (first | exact HB.out | apply below_alloc | apply pw_below_drewN | apply below_drew1 | refine below_set ?_ GE276.out))) : w.heap.size ≤ gb309)); have n9_ := Aside0.mk ((by rw [hg]; exact Nat.ne_of_lt (blk_lt (g := gb276) (o := .cells #[.int .u32 a0_0, .slice (some ad283) l0_1.length c0_1] 26 (0, 0)) (by (with_reducible repeat (first | refine blk_drewN ?_ _ | refine blk_drew ?_ | refine blk_alloc ?_ _)); exact BK276.out)) : gb276 ≠ gb309)); have n10_ := Aside0.mk ((by rw [hg]; exact Nat.ne_of_gt (blk_lt (g := gb276) (o := .cells #[.int .u32 a0_0, .slice (some ad283) l0_1.length c0_1] 26 (0, 0)) (by (with_reducible repeat (first | refine blk_drewN ?_ _ | refine blk_drew ?_ | refine blk_alloc ?_ _)); exact BK276.out)) : gb309 ≠ gb276)); clear HO281; clear HO291; clear HO301; clear HO307; clear BK276; clear HB; have HO281 := n0_; have HO291 := n1_; have HO301 := n2_; have HO307 := n3_; have BK276 := n4_; have HB := n5_; have BK309 := n6_; have GW309 := n7_; have GE309 := n8_; have NB276_309 := n9_; have NB309_276 := n10_; clear n0_ n1_ n2_ n3_ n4_ n5_ n6_ n7_ n8_ n9_ n10_; clear hb hbox hg; have hnb78 := NB309_276.out; have hnc78 := NB276_309.out; have hcz79_0 : w77.cell? ⟨gb309, 0, none⟩ = some (.int .u32 0) := (blk_cell BK309.out 0).trans rfl; have hcz79_1 : w77.cell? ⟨gb309, 1, none⟩ = some (.slice none 0 0) := (blk_cell BK309.out 1).trans rfl; have hfz79_0 := blk_frozen BK309.out 0; have hfz79_1 := blk_frozen BK309.out 1; obtain ⟨Ao80, co80, eo80⟩ := Kd.N_slice HO307.out; subst eo80))
      have n0_ : Aside0 (Kd.R (Kd.int .u8) 5 ((w77.setCell ⟨gb309, 0, none⟩ (.int .u32 t304)).setCell ⟨gb309, 1, none⟩ (.slice Ao80 t305.length co80)) w.heap.size (fun k_ => some k_ ≠ (.slice (some ⟨go28, 0, none⟩) y299.length co28 : Value).ownBlock) (.slice Ao66 t279.length co66) t279) := ⟨by (with_reducible repeat (first | apply Kd.R_alloc | apply Kd.R_drewN | apply Kd.R_drew)); exact Kd.R_mono (Kd.R_far (p := ⟨gb309, 1, none⟩) (Kd.R_far (p := ⟨gb309, 0, none⟩) (Kd.R_types HO281.out BK309.out (by decide)) (fun _ hk => hk.2) (.int .u32 t304)) (fun _ hk => hk.2) (.slice Ao80 t305.length co80)) (fun _ hk => hk.1.2)⟩
      have n1_ : Aside0 (Kd.V (Kd.int .u8) 5 ((w77.setCell ⟨gb309, 0, none⟩ (.int .u32 t304)).setCell ⟨gb309, 1, none⟩ (.slice Ao80 t305.length co80)) w.heap.size (fun k_ => some k_ ≠ (.slice (some ⟨go28, 0, none⟩) y299.length co28 : Value).ownBlock ∧ some k_ ≠ (.slice Ao80 t305.length co80 : Value).ownBlock ∧ k_ ≠ gb276 ∧ k_ ≠ gb309) (.slice Ao66 y287.length co66) y287) := ⟨by (with_reducible repeat (first | apply Kd.V_alloc | apply Kd.V_drewN | apply Kd.V_drew)); exact Kd.V_mono (Kd.V_far (p := ⟨gb309, 1, none⟩) (Kd.V_far (p := ⟨gb309, 0, none⟩) (Kd.V_mono HO291.out (fun k_ hk => (⟨hk, hk.2⟩ : _ ∧ k_ ≠ gb309))) (fun _ hk => hk.2) (.int .u32 t304)) (fun _ hk => hk.2) (.slice Ao80 t305.length co80)) (fun _ hk => ⟨hk.1.1.1.2, ⟨hk.1.1.2, ⟨hk.1.1.1.1, hk.1.2⟩⟩⟩)⟩
      have n2_ : Aside0 (Kd.R (Kd.int .u8) 5 ((w77.setCell ⟨gb309, 0, none⟩ (.int .u32 t304)).setCell ⟨gb309, 1, none⟩ (.slice Ao80 t305.length co80)) w.heap.size (fun k_ => some k_ ≠ (.slice Ao66 t279.length co66 : Value).ownBlock) (.slice (some ⟨go28, 0, none⟩) y299.length co28) y303) := ⟨by (with_reducible repeat (first | apply Kd.R_alloc | apply Kd.R_drewN | apply Kd.R_drew)); exact Kd.R_mono (Kd.R_far (p := ⟨gb309, 1, none⟩) (Kd.R_far (p := ⟨gb309, 0, none⟩) (Kd.R_types HO301.out BK309.out (by decide)) (fun _ hk => hk.2) (.int .u32 t304)) (fun _ hk => hk.2) (.slice Ao80 t305.length co80)) (fun _ hk => hk.1)⟩
      have n3_ : Aside0 (Kd.N k30 30 ((w77.setCell ⟨gb309, 0, none⟩ (.int .u32 t304)).setCell ⟨gb309, 1, none⟩ (.slice Ao80 t305.length co80)) w.heap.size (fun k_ => some k_ ≠ (.slice Ao66 t279.length co66 : Value).ownBlock ∧ some k_ ≠ (.slice (some ⟨go28, 0, none⟩) y299.length co28 : Value).ownBlock ∧ k_ ≠ gb276 ∧ k_ ≠ gb309) (.slice Ao80 t305.length co80) t305) := ⟨by (with_reducible repeat (first | apply Kd.N_alloc | apply Kd.N_drewN | apply Kd.N_drew)); exact Kd.N_mono (Kd.N_far (p := ⟨gb309, 1, none⟩) (Kd.N_far (p := ⟨gb309, 0, none⟩) (Kd.N_mono HO307.out (fun k_ hk => (⟨hk, hk.2⟩ : _ ∧ k_ ≠ gb309))) (fun _ hk => hk.2) (.int .u32 t304)) (fun _ hk => hk.2) (.slice Ao80 t305.length co80)) (fun _ hk => ⟨hk.1.1.1, ⟨hk.1.1.2.1, ⟨hk.1.1.2.2, hk.1.2⟩⟩⟩)⟩
      have n4_ : Aside0 (((w77.setCell ⟨gb309, 0, none⟩ (.int .u32 t304)).setCell ⟨gb309, 1, none⟩ (.slice Ao80 t305.length co80)).heap[gb276]? = some (.cells #[.int .u32 a0_0, .slice (some ad283) l0_1.length c0_1] 26 (0, 0))) := ⟨by (with_reducible repeat (first | refine blk_drewN ?_ _ | refine blk_drew ?_ | refine blk_alloc ?_ _)); refine blk_far ?_ NB276_309.out _; (with_reducible repeat (first | refine blk_drewN ?_ _ | refine blk_drew ?_ | refine blk_alloc ?_ _)); refine blk_far ?_ NB276_309.out _; (with_reducible repeat (first | refine blk_drewN ?_ _ | refine blk_drew ?_ | refine blk_alloc ?_ _)); exact BK276.out⟩
      have n5_ : Aside0 (((w77.setCell ⟨gb309, 0, none⟩ (.int .u32 t304)).setCell ⟨gb309, 1, none⟩ (.slice Ao80 t305.length co80)).heap[gb309]? = some (.cells #[.int .u32 t304, .slice Ao80 t305.length co80] 26 (0, 0))) := ⟨by (with_reducible repeat (first | refine blk_drewN ?_ _ | refine blk_drew ?_ | refine blk_alloc ?_ _)); refine blk_put (cs := #[.int .u32 t304, .slice none 0 0]) ?_ 1 _ rfl; (with_reducible repeat (first | refine blk_drewN ?_ _ | refine blk_drew ?_ | refine blk_alloc ?_ _)); refine blk_put (cs := #[.int .u32 0, .slice none 0 0]) ?_ 0 _ rfl; (with_reducible repeat (first | refine blk_drewN ?_ _ | refine blk_drew ?_ | refine blk_alloc ?_ _)); exact BK309.out⟩
      have n6_ : Aside0 (Below w.heap.size w ((w77.setCell ⟨gb309, 0, none⟩ (.int .u32 t304)).setCell ⟨gb309, 1, none⟩ (.slice Ao80 t305.length co80))) := ⟨by with_reducible repeat (first | exact HB.out | apply below_alloc | apply pw_below_drewN | apply below_drew1 | refine below_set ?_ GE276.out | refine below_set ?_ GE309.out)⟩
      (try clear HO281); (try clear HO291); (try clear HO301); (try clear HO307); (try clear BK276); (try clear BK309); (try clear HB)
      generalize ((w77.setCell ⟨gb309, 0, none⟩ (.int .u32 t304)).setCell ⟨gb309, 1, none⟩ (.slice Ao80 t305.length co80)) = w81 at n0_ n1_ n2_ n3_ n4_ n5_ n6_ ⊢
      have HO281 := n0_
      have HO291 := n1_
      have HO301 := n2_
      have HO307 := n3_
      have BK276 := n4_
      have BK309 := n5_
      have HB := n6_
      clear n0_ n1_ n2_ n3_ n4_ n5_ n6_
      have n0_ := Aside0.mk (Kd.R_drew HO281.out)
      have n1_ := Aside0.mk (Kd.V_drew HO291.out)
      have n2_ := Aside0.mk (Kd.R_drew HO301.out)
      have n3_ := Aside0.mk (Kd.N_drew HO307.out)
      have n4_ := Aside0.mk (blk_drew BK276.out)
      have n5_ := Aside0.mk (blk_drew BK309.out)
      have n6_ := Aside0.mk (below_drew1 HB.out)
      clear HO281 HO291 HO301 HO307 BK276 BK309 HB
      have HO281 := n0_
      have HO291 := n1_
      have HO301 := n2_
      have HO307 := n3_
      have BK276 := n4_
      have BK309 := n5_
      have HB := n6_
      clear n0_ n1_ n2_ n3_ n4_ n5_ n6_
      have p319 : 0 ≤ (0 : Int) := (by omega)
      have q319 : 0 < (t305.length : Int) := of_decide_eq_true (by assumption)
      obtain ⟨ad319, A319_3, c319_3, e319, hx319_0, hx319_1, hx319_2, hx319_3, hl319_3, hi319_3⟩ := at_T30 (Kd.N_reads' HO307.out).2.2 0 p319 q319
      cases e319
      obtain ⟨ce319, hce319, hMe319, hcc319⟩ := Kd.N_get HO307.out z30 0 p319 (by first | exact q319 | exact of_decide_eq_true (by assumption) | (have e_ := (Kd.N_reads' HO307.out).1; omega))
      obtain ⟨ua319_3, uc319_3, rfl, ul319_3, ge319_3⟩ := k30_openF hMe319
      have hv319_3 := hcc319 3 _ rfl
      rw [add_field _ _ 3 (by omega)] at hv319_3
      replace hv319_3 := Option.some.inj (hv319_3.symm.trans hx319_3)
      injection hv319_3 with hva_ hvn_ hvc_
      rw [hva_] at ge319_3
      rw [hvc_] at ul319_3
      have HL319_3 := Aside0.mk (show Kd.V (Kd.int .u8) 5 _ w.heap.size _ _ ((rd_T30 t305 0).f3) from Kd.V_mk ul319_3 ge319_3)
      clear hva_ hvn_ hvc_ ge319_3 ul319_3 hcc319 hce319
      have qi319 : (0 < t305.length) = True := eq_true (by omega)
      (try rw [show ((0 : Int)).toNat = 0 from rfl] at hx319_0)
      (try rw [show 0 * 4 = 0 from rfl] at hx319_0)
      (try rw [Addr.add_zero'] at hx319_0)
      (try rw [show ((0 : Int)).toNat = 0 from rfl] at hx319_1)
      (try rw [show 0 * 4 = 0 from rfl] at hx319_1)
      (try rw [Addr.add_zero'] at hx319_1)
      (try rw [show ((0 : Int)).toNat = 0 from rfl] at hx319_2)
      (try rw [show 0 * 4 = 0 from rfl] at hx319_2)
      (try rw [Addr.add_zero'] at hx319_2)
      (try rw [show ((0 : Int)).toNat = 0 from rfl] at hx319_3)
      (try rw [show 0 * 4 = 0 from rfl] at hx319_3)
      (try rw [Addr.add_zero'] at hx319_3)
      have HR319_3 := Aside0.mk hi319_3
      have HC319_3 := Aside0.mk hl319_3
      clear hi319_3 hl319_3
      replace p319 := eq_true p319
      replace q319 := eq_true q319
      refine start_ (n := 25) (S := fun w' => w'.cell? ⟨gb309, 0, none⟩ = some (.int .u32 t304) ∧ w'.cell? ⟨gb309, 1, none⟩ = some (.slice (some ad319) t305.length co80) ∧ w'.cell? ⟨gb276, 0, none⟩ = some (.int .u32 a0_0) ∧ w'.cell? ⟨gb276, 1, none⟩ = some (.slice (some ad283) l0_1.length c0_1) ∧ w'.cell? ad319 = some (.int .u32 ((rd_T30 t305 0).f0)) ∧ w'.cell? ⟨ad319.block, ad319.off + 1, none⟩ = some (.int .u32 ((rd_T30 t305 0).f1)) ∧ w'.cell? ⟨ad319.block, ad319.off + 2, none⟩ = some (.int .i64 ((rd_T30 t305 0).f2)) ∧ w'.cell? ⟨ad319.block, ad319.off + 3, none⟩ = some (.slice A319_3 ((rd_T30 t305 0).f3).length c319_3)) (ds := []) #[ff, ff, ff, ff, ff, ff, ff, ff, ff, ff, ff, ff, ff, ff, ff, ff, ff, ff, ff, ff, ff, ff, ff, ff, ff] (by kernel_rfl) rfl rfl ⟨(blk_cell BK309.out 0).trans rfl, (blk_cell BK309.out 1).trans rfl, (blk_cell BK276.out 0).trans rfl, (blk_cell BK276.out 1).trans rfl, hx319_0, hx319_1, hx319_2, hx319_3⟩ (fun hHeld => ?_); refine with_tabW tincturelaw8_ImageMoved.tab13 tincturelaw8_ImageMoved.bits13 (fun HT_ HW_ => ?_)
      generalize w81.drew = w82 at HO281 HO291 HO301 HO307 BK276 BK309 HB HL319_3 HR319_3 hx319_0 hx319_1 hx319_2 hx319_3 hHeld ⊢
      refine pure_ (i := 0) (N := some 69) (v := ?_) (a' := ?_) #[tt, ff, ff, ff, ff, ff, ff, ff, ff, ff, ff, ff, ff, ff, ff, ff, ff, ff, ff, ff, ff, ff, ff, ff, ff] rfl rfl (any_of HT_.out (by kernel_rfl)) (fun _ _ _ h => h) (Or.inl ⟨by rfl, ?_⟩) ?_ ?_
      rotate_left
      · intro w'
        go_simp
        with_reducible rfl
      rotate_left
      · simp only [Act.put, List.setIfInBounds_toArray, List.set_cons_zero, List.set_cons_succ, i64_w, i32_w]
        rfl
      refine pure_ (i := 1) (N := some 70) (v := ?_) (a' := ?_) #[tt, tt, ff, ff, ff, ff, ff, ff, ff, ff, ff, ff, ff, ff, ff, ff, ff, ff, ff, ff, ff, ff, ff, ff, ff] rfl rfl (any_of HT_.out (by kernel_rfl)) (fun _ _ _ h => h) (Or.inl ⟨by rfl, ?_⟩) ?_ ?_
      rotate_left
      · intro w'
        go_simp
        with_reducible rfl
      rotate_left
      · simp only [Act.put, List.setIfInBounds_toArray, List.set_cons_zero, List.set_cons_succ, i64_w, i32_w]
        rfl
      refine pure_ (i := 2) (N := some 71) (v := ?_) (a' := ?_) #[tt, tt, tt, ff, ff, ff, ff, ff, ff, ff, ff, ff, ff, ff, ff, ff, ff, ff, ff, ff, ff, ff, ff, ff, ff] rfl rfl (any_of HT_.out (by kernel_rfl)) (fun _ _ _ h => h) (Or.inl ⟨by rfl, ?_⟩) ?_ ?_
      rotate_left
      · intro w'
        go_simp
        with_reducible rfl
      rotate_left
      · simp only [Act.put, List.setIfInBounds_toArray, List.set_cons_zero, List.set_cons_succ, i64_w, i32_w]
        rfl
      refine pure_ (i := 3) (N := some 72) (v := ?_) (a' := ?_) #[tt, tt, tt, tt, ff, ff, ff, ff, ff, ff, ff, ff, ff, ff, ff, ff, ff, ff, ff, ff, ff, ff, ff, ff, ff] rfl rfl (any_of HT_.out (by kernel_rfl)) (fun _ _ _ h => h) (Or.inl ⟨by rfl, ?_⟩) ?_ ?_
      rotate_left
      · intro w'
        go_simp
        with_reducible rfl
      rotate_left
      · simp only [Act.put, List.setIfInBounds_toArray, List.set_cons_zero, List.set_cons_succ, i64_w, i32_w]
        rfl
      refine pure_ (i := 4) (N := some 73) (v := ?_) (a' := ?_) #[tt, tt, tt, tt, tt, ff, ff, ff, ff, ff, ff, ff, ff, ff, ff, ff, ff, ff, ff, ff, ff, ff, ff, ff, ff] rfl rfl (any_of HT_.out (by kernel_rfl)) (fun _ _ _ h => h) (Or.inl ⟨by rfl, ?_⟩) ?_ ?_
      rotate_left
      · intro w'
        go_simp
        with_reducible rfl
      rotate_left
      · simp only [Act.put, List.setIfInBounds_toArray, List.set_cons_zero, List.set_cons_succ, i64_w, i32_w]
        rfl
      refine pure_ (i := 5) (N := some 74) (v := ?_) (a' := ?_) #[tt, tt, tt, tt, tt, tt, ff, ff, ff, ff, ff, ff, ff, ff, ff, ff, ff, ff, ff, ff, ff, ff, ff, ff, ff] rfl rfl (any_of HT_.out (by kernel_rfl)) (fun _ _ _ h => h) (Or.inl ⟨by rfl, ?_⟩) ?_ ?_
      rotate_left
      · intro w'
        go_simp
        with_reducible rfl
      rotate_left
      · simp only [Act.put, List.setIfInBounds_toArray, List.set_cons_zero, List.set_cons_succ, i64_w, i32_w]
        rfl
      refine pure_ (i := 6) (N := some 75) (v := ?_) (a' := ?_) #[tt, tt, tt, tt, tt, tt, tt, ff, ff, ff, ff, ff, ff, ff, ff, ff, ff, ff, ff, ff, ff, ff, ff, ff, ff] rfl rfl (any_of HT_.out (by kernel_rfl)) (fun _ _ _ h => h) (Or.inl ⟨by rfl, ?_⟩) ?_ ?_
      rotate_left
      · intro w'
        go_simp
        with_reducible rfl
      rotate_left
      · simp only [Act.put, List.setIfInBounds_toArray, List.set_cons_zero, List.set_cons_succ, i64_w, i32_w]
        rfl
      refine take_ (i := 7) (N := some 76) (v := ?_) (a' := ?_) #[tt, tt, tt, tt, tt, tt, tt, tt, ff, ff, ff, ff, ff, ff, ff, ff, ff, ff, ff, ff, ff, ff, ff, ff, ff] rfl rfl (take_ofW HT_.out HW_.out (by kernel_rfl)) (fun _ _ _ h => h) (Or.inl ⟨by rfl, ?_⟩) hHeld ?_ ?_
      rotate_left
      · rintro w' ⟨s0, s1, s2, s3, s4, s5, s6, s7⟩
        go_simp
        with_reducible rfl
      rotate_left
      · simp only [Act.put, List.setIfInBounds_toArray, List.set_cons_zero, List.set_cons_succ, i64_w, i32_w]
        rfl
      refine take_ (i := 9) (N := some 78) (v := ?_) (a' := ?_) #[tt, tt, tt, tt, tt, tt, tt, tt, ff, tt, ff, ff, ff, ff, ff, ff, ff, ff, ff, ff, ff, ff, ff, ff, ff] rfl rfl (take_ofW HT_.out HW_.out (by kernel_rfl)) (fun _ _ _ h => h) (Or.inl ⟨by rfl, ?_⟩) hHeld ?_ ?_
      rotate_left
      · rintro w' ⟨s0, s1, s2, s3, s4, s5, s6, s7⟩
        go_simp
        with_reducible rfl
      rotate_left
      · simp only [Act.put, List.setIfInBounds_toArray, List.set_cons_zero, List.set_cons_succ, i64_w, i32_w]
        rfl
      refine one_ (i := 8) (N := some 77) #[tt, tt, tt, tt, tt, tt, tt, tt, tt, tt, ff, ff, ff, ff, ff, ff, ff, ff, ff, ff, ff, ff, ff, ff, ff] rfl rfl (one_of HT_.out (by kernel_rfl)) (by decide) (fun K hK => ?_)
      refine goes_ Try.func16 (by kernel_rfl) rfl #[.agg #[.int .u32 t304, .slice (some ad319) t305.length co80]] (by rfl) rfl rfl (by (try simp only [List.map_toArray, List.map_cons, List.map_nil]); first | done | rfl | (simp only [List.length_drop, List.length_take]; rfl)) ?_
      with_reducible refine (tincturelaw8_img.calls kj4 t304 (fun k_ => (some k_ ≠ (.slice Ao66 t279.length co66 : Value).ownBlock ∧ (some k_ ≠ (.slice (some ⟨go28, 0, none⟩) y299.length co28 : Value).ownBlock ∧ (k_ ≠ gb276 ∧ k_ ≠ gb309)))) _ _ t305 t310 t311 _ ?side1 A56.out).mono ?_
      (case side1 => exact Kd.N_V (HO307.out))
      rintro e w83 ⟨v312, rfl, ho0, hb⟩
      have HS4_ := (hb.cell (World.block_lt_of_cell? _ _ (hHeld.2.2.2.2.1))).trans (hHeld.2.2.2.2.1)
      have HS5_ := (hb.cell (World.block_lt_of_cell? _ _ (hHeld.2.2.2.2.2.1))).trans (hHeld.2.2.2.2.2.1)
      have HS6_ := (hb.cell (World.block_lt_of_cell? _ _ (hHeld.2.2.2.2.2.2.1))).trans (hHeld.2.2.2.2.2.2.1)
      have HS7_ := (hb.cell (World.block_lt_of_cell? _ _ (hHeld.2.2.2.2.2.2.2))).trans (hHeld.2.2.2.2.2.2.2)
      refine ⟨_, rfl, ?_⟩
      have n0_ := Aside0.mk (Kd.R_below (by (with_reducible repeat (first | apply Kd.R_alloc | apply Kd.R_drewN | apply Kd.R_drew)); exact HO281.out) hb)
      have n1_ := Aside0.mk (Kd.V_elder' (by (with_reducible repeat (first | apply Kd.V_alloc | apply Kd.V_drewN | apply Kd.V_drew)); exact HO291.out) (by first | exact Kd.N_base ho0 | exact Kd.N_base (Kd.S_N (Kd.S_bound ho0))) hb)
      have n2_ := Aside0.mk (Kd.R_below (by (with_reducible repeat (first | apply Kd.R_alloc | apply Kd.R_drewN | apply Kd.R_drew)); exact HO301.out) hb)
      have n3_ := Aside0.mk (Kd.N_elder' (by (with_reducible repeat (first | apply Kd.N_alloc | apply Kd.N_drewN | apply Kd.N_drew)); exact HO307.out) (by first | exact Kd.N_base ho0 | exact Kd.N_base (Kd.S_N (Kd.S_bound ho0))) hb)
      have n4_ := Aside0.mk (Kd.N_lower (Kd.N_mono (ok' := fun k_ => some k_ ≠ (.slice Ao66 t279.length co66 : Value).ownBlock ∧ some k_ ≠ (.slice (some ⟨go28, 0, none⟩) y299.length co28 : Value).ownBlock ∧ k_ ≠ gb276 ∧ k_ ≠ gb309) ho0 (fun k_ hk_ => ⟨Or.elim hk_ (fun hs_ => hs_.1) (fun hn_ => (Kd.fresh' (Kd.R_lt (by (with_reducible repeat (first | apply Kd.R_alloc | apply Kd.R_drewN | apply Kd.R_drew)); exact HO281.out)) k_ hn_)), Or.elim hk_ (fun hs_ => hs_.2.1) (fun hn_ => (Kd.fresh' (Kd.R_lt (by (with_reducible repeat (first | apply Kd.R_alloc | apply Kd.R_drewN | apply Kd.R_drew)); exact HO301.out)) k_ hn_)), Or.elim hk_ (fun hs_ => hs_.2.2.1) (fun hn_ => (Kd.freshB (g := gb276) (o := .cells #[.int .u32 a0_0, .slice (some ad283) l0_1.length c0_1] 26 (0, 0)) (by (with_reducible repeat (first | refine blk_drewN ?_ _ | refine blk_drew ?_ | refine blk_alloc ?_ _)); exact BK276.out) k_ hn_)), Or.elim hk_ (fun hs_ => hs_.2.2.2) (fun hn_ => (Kd.freshB (g := gb309) (o := .cells #[.int .u32 t304, .slice (some ad319) t305.length co80] 26 (0, 0)) (by (with_reducible repeat (first | refine blk_drewN ?_ _ | refine blk_drew ?_ | refine blk_alloc ?_ _)); exact BK309.out) k_ hn_))⟩)) (below_size (by with_reducible repeat (first | exact HB.out | apply below_alloc | apply pw_below_drewN | apply below_drew1 | refine below_set ?_ GE276.out | refine below_set ?_ GE309.out))))
      have n5_ := Aside0.mk (blk_below (g := gb276) (o := .cells #[.int .u32 a0_0, .slice (some ad283) l0_1.length c0_1] 26 (0, 0)) (by (with_reducible repeat (first | refine blk_drewN ?_ _ | refine blk_drew ?_ | refine blk_alloc ?_ _)); exact BK276.out) hb)
      have n6_ := Aside0.mk (blk_below (g := gb309) (o := .cells #[.int .u32 t304, .slice (some ad319) t305.length co80] 26 (0, 0)) (by (with_reducible repeat (first | refine blk_drewN ?_ _ | refine blk_drew ?_ | refine blk_alloc ?_ _)); exact BK309.out) hb)
      have n7_ := Aside0.mk (below_step (by with_reducible repeat (first | exact HB.out | apply below_alloc | apply pw_below_drewN | apply below_drew1 | refine below_set ?_ GE276.out | refine below_set ?_ GE309.out)) hb)
      clear HO281 HO291 HO301 HO307 BK276 BK309 HB
      have HO281 := n0_
      have HO291 := n1_
      have HO301 := n2_
      have HO307 := n3_
      have HO313 := n4_
      have BK276 := n5_
      have BK309 := n6_
      have HB := n7_
      clear n0_ n1_ n2_ n3_ n4_ n5_ n6_ n7_
      (try clear hb); (try clear hb2); (try clear hk); (try clear hi); (try clear ho0)
      refine hK.out _ _ ⟨(blk_cell BK309.out 0).trans rfl, (blk_cell BK309.out 1).trans rfl, (blk_cell BK276.out 0).trans rfl, (blk_cell BK276.out 1).trans rfl, HS4_, HS5_, HS6_, HS7_⟩ (fun hHeld => ?_)
      clear hK K
      refine norm_ (a' := ?_) ?_ ?_
      rotate_left
      · show Act.put _ (some 77) _ = _
        simp only [Act.put, List.setIfInBounds_toArray, List.set_cons_zero, List.set_cons_succ, i64_w, i32_w]
        rfl
      refine one_ (i := 10) (N := some 79) #[tt, tt, tt, tt, tt, tt, tt, tt, tt, tt, tt, ff, ff, ff, ff, ff, ff, ff, ff, ff, ff, ff, ff, ff, ff] rfl rfl (one_of HT_.out (by kernel_rfl)) (by decide) (fun K hK => ?_)
      refine goes_ Try.func16 (by kernel_rfl) rfl #[.agg #[.int .u32 a0_0, .slice (some ad283) l0_1.length c0_1]] (by rfl) rfl rfl (by (try simp only [List.map_toArray, List.map_cons, List.map_nil]); first | done | rfl | (simp only [List.length_drop, List.length_take]; rfl)) ?_
      with_reducible refine (tincturelaw8_img.calls kj4 a0_0 (fun k_ => k_ < w.heap.size) _ _ l0_1 t314 t315 _ ?side1 A57.out).mono ?_
      (case side1 => exact Kd.V_mk HC0_1.out (Kd.F_below (Kd.C_F k30_heap HR0_1.out) (by with_reducible repeat (first | exact HB.out | apply below_alloc | apply pw_below_drewN | apply below_drew1 | refine below_set ?_ GE276.out | refine below_set ?_ GE309.out))))
      rintro e w84 ⟨v316, rfl, ho0, hb⟩
      have HS4_ := (hb.cell (World.block_lt_of_cell? _ _ (hHeld.2.2.2.2.1))).trans (hHeld.2.2.2.2.1)
      have HS5_ := (hb.cell (World.block_lt_of_cell? _ _ (hHeld.2.2.2.2.2.1))).trans (hHeld.2.2.2.2.2.1)
      have HS6_ := (hb.cell (World.block_lt_of_cell? _ _ (hHeld.2.2.2.2.2.2.1))).trans (hHeld.2.2.2.2.2.2.1)
      have HS7_ := (hb.cell (World.block_lt_of_cell? _ _ (hHeld.2.2.2.2.2.2.2))).trans (hHeld.2.2.2.2.2.2.2)
      refine ⟨_, rfl, ?_⟩
      have n0_ := Aside0.mk (Kd.R_below (by (with_reducible repeat (first | apply Kd.R_alloc | apply Kd.R_drewN | apply Kd.R_drew)); exact HO281.out) hb)
      have n1_ := Aside0.mk (Kd.V_elder' (by (with_reducible repeat (first | apply Kd.V_alloc | apply Kd.V_drewN | apply Kd.V_drew)); exact HO291.out) (by first | exact Kd.N_base ho0 | exact Kd.N_base (Kd.S_N (Kd.S_bound ho0))) hb)
      have n2_ := Aside0.mk (Kd.R_below (by (with_reducible repeat (first | apply Kd.R_alloc | apply Kd.R_drewN | apply Kd.R_drew)); exact HO301.out) hb)
      have n3_ := Aside0.mk (Kd.N_elder' (by (with_reducible repeat (first | apply Kd.N_alloc | apply Kd.N_drewN | apply Kd.N_drew)); exact HO307.out) (by first | exact Kd.N_base ho0 | exact Kd.N_base (Kd.S_N (Kd.S_bound ho0))) hb)
      have n4_ := Aside0.mk (Kd.N_elder' (by (with_reducible repeat (first | apply Kd.N_alloc | apply Kd.N_drewN | apply Kd.N_drew)); exact HO313.out) (by first | exact Kd.N_base ho0 | exact Kd.N_base (Kd.S_N (Kd.S_bound ho0))) hb)
      have n5_ := Aside0.mk (Kd.N_lower (Kd.N_mono (ok' := fun k_ => some k_ ≠ (.slice Ao66 t279.length co66 : Value).ownBlock ∧ some k_ ≠ (.slice (some ⟨go28, 0, none⟩) y299.length co28 : Value).ownBlock ∧ some k_ ≠ (.slice (some ad319) t305.length co80 : Value).ownBlock ∧ some k_ ≠ (v312 : Value).ownBlock ∧ k_ ≠ gb276 ∧ k_ ≠ gb309) ho0 (fun k_ hk_ => ⟨Or.elim hk_ (fun hs_ => fun e_ => Nat.not_le.2 hs_ (Kd.R_base HO281.out k_ e_.symm)) (fun hn_ => (Kd.fresh' (Kd.R_lt (by (with_reducible repeat (first | apply Kd.R_alloc | apply Kd.R_drewN | apply Kd.R_drew)); exact HO281.out)) k_ hn_)), Or.elim hk_ (fun hs_ => fun e_ => Nat.not_le.2 hs_ (Kd.R_base HO301.out k_ e_.symm)) (fun hn_ => (Kd.fresh' (Kd.R_lt (by (with_reducible repeat (first | apply Kd.R_alloc | apply Kd.R_drewN | apply Kd.R_drew)); exact HO301.out)) k_ hn_)), Or.elim hk_ (fun hs_ => fun e_ => Nat.not_le.2 hs_ (Kd.N_base HO307.out k_ e_.symm)) (fun hn_ => (Kd.fresh' (Kd.N_lt (by (with_reducible repeat (first | apply Kd.N_alloc | apply Kd.N_drewN | apply Kd.N_drew)); exact HO307.out)) k_ hn_)), Or.elim hk_ (fun hs_ => fun e_ => Nat.not_le.2 hs_ (Kd.N_base HO313.out k_ e_.symm)) (fun hn_ => (Kd.fresh' (Kd.N_lt (by (with_reducible repeat (first | apply Kd.N_alloc | apply Kd.N_drewN | apply Kd.N_drew)); exact HO313.out)) k_ hn_)), Or.elim hk_ (fun hs_ => fun e_ => Nat.not_le.2 hs_ (by rw [e_]; exact GW276.out)) (fun hn_ => (Kd.freshB (g := gb276) (o := .cells #[.int .u32 a0_0, .slice (some ad283) l0_1.length c0_1] 26 (0, 0)) (by (with_reducible repeat (first | refine blk_drewN ?_ _ | refine blk_drew ?_ | refine blk_alloc ?_ _)); exact BK276.out) k_ hn_)), Or.elim hk_ (fun hs_ => fun e_ => Nat.not_le.2 hs_ (by rw [e_]; exact GW309.out)) (fun hn_ => (Kd.freshB (g := gb309) (o := .cells #[.int .u32 t304, .slice (some ad319) t305.length co80] 26 (0, 0)) (by (with_reducible repeat (first | refine blk_drewN ?_ _ | refine blk_drew ?_ | refine blk_alloc ?_ _)); exact BK309.out) k_ hn_))⟩)) (below_size (by with_reducible repeat (first | exact HB.out | apply below_alloc | apply pw_below_drewN | apply below_drew1 | refine below_set ?_ GE276.out | refine below_set ?_ GE309.out))))
      have n6_ := Aside0.mk (blk_below (g := gb276) (o := .cells #[.int .u32 a0_0, .slice (some ad283) l0_1.length c0_1] 26 (0, 0)) (by (with_reducible repeat (first | refine blk_drewN ?_ _ | refine blk_drew ?_ | refine blk_alloc ?_ _)); exact BK276.out) hb)
      have n7_ := Aside0.mk (blk_below (g := gb309) (o := .cells #[.int .u32 t304, .slice (some ad319) t305.length co80] 26 (0, 0)) (by (with_reducible repeat (first | refine blk_drewN ?_ _ | refine blk_drew ?_ | refine blk_alloc ?_ _)); exact BK309.out) hb)
      have n8_ := Aside0.mk (below_step (by with_reducible repeat (first | exact HB.out | apply below_alloc | apply pw_below_drewN | apply below_drew1 | refine below_set ?_ GE276.out | refine below_set ?_ GE309.out)) hb)
      clear HO281 HO291 HO301 HO307 HO313 BK276 BK309 HB
      have HO281 := n0_
      have HO291 := n1_
      have HO301 := n2_
      have HO307 := n3_
      have HO313 := n4_
      have HO317 := n5_
      have BK276 := n6_
      have BK309 := n7_
      have HB := n8_
      clear n0_ n1_ n2_ n3_ n4_ n5_ n6_ n7_ n8_
      (try clear hb); (try clear hb2); (try clear hk); (try clear hi); (try clear ho0)
      obtain ⟨Ao85, co85, eo85⟩ := Kd.N_slice HO313.out
      (first | subst eo85 | (injection eo85 with f1_ f2_ f3_; have f4_ := f1_.symm; have f5_ := f3_.symm; clear f1_ f2_ f3_; subst f4_; subst f5_))
      obtain ⟨Ao86, co86, eo86⟩ := Kd.N_slice HO317.out
      (first | subst eo86 | (injection eo86 with f1_ f2_ f3_; have f4_ := f1_.symm; have f5_ := f3_.symm; clear f1_ f2_ f3_; subst f4_; subst f5_))
      refine hK.out _ _ ⟨(blk_cell BK309.out 0).trans rfl, (blk_cell BK309.out 1).trans rfl, (blk_cell BK276.out 0).trans rfl, (blk_cell BK276.out 1).trans rfl, HS4_, HS5_, HS6_, HS7_⟩ (fun hHeld => ?_)
      clear hK K
      refine norm_ (a' := ?_) ?_ ?_
      rotate_left
      · show Act.put _ (some 79) _ = _
        simp only [Act.put, List.setIfInBounds_toArray, List.set_cons_zero, List.set_cons_succ, i64_w, i32_w]
        rfl
      refine one_ (i := 11) (N := some 80) #[tt, tt, tt, tt, tt, tt, tt, tt, tt, tt, tt, tt, ff, ff, ff, ff, ff, ff, ff, ff, ff, ff, ff, ff, ff] rfl rfl (one_of HT_.out (by kernel_rfl)) (by decide) (fun K hK => ?_)
      refine goes_ Try.func17 (by kernel_rfl) rfl #[.agg #[.int .u32 t310, .slice Ao85 t311.length co85], .agg #[.int .u32 t314, .slice Ao86 t315.length co86]] (by rfl) rfl rfl (by (try simp only [List.map_toArray, List.map_cons, List.map_nil]); first | done | rfl | (simp only [List.length_drop, List.length_take]; rfl)) ?_
      with_reducible refine (tincturelaw8_sameImage.calls kj4 t310 _ _ t311 t314 _ _ t315 true _ ?side1 ?side2 ?side3 ?side4 A58.out).mono ?_
      (case side1 => repeat (first | exact (Kd.N_reads' HO313.out).2.2 | (with_reducible refine Kd.C_alloc ?_ _) | (with_reducible refine Kd.C_drewN ?_ _) | (with_reducible refine Kd.C_drew ?_)))
      (case side2 => exact (Kd.N_reads' HO313.out).2.1)
      (case side3 => repeat (first | exact (Kd.N_reads' HO317.out).2.2 | (with_reducible refine Kd.C_alloc ?_ _) | (with_reducible refine Kd.C_drewN ?_ _) | (with_reducible refine Kd.C_drew ?_)))
      (case side4 => exact (Kd.N_reads' HO317.out).2.1)
      rintro e w87 ⟨rfl, hb⟩
      have HS4_ := (hb.cell (World.block_lt_of_cell? _ _ (hHeld.2.2.2.2.1))).trans (hHeld.2.2.2.2.1)
      have HS5_ := (hb.cell (World.block_lt_of_cell? _ _ (hHeld.2.2.2.2.2.1))).trans (hHeld.2.2.2.2.2.1)
      have HS6_ := (hb.cell (World.block_lt_of_cell? _ _ (hHeld.2.2.2.2.2.2.1))).trans (hHeld.2.2.2.2.2.2.1)
      have HS7_ := (hb.cell (World.block_lt_of_cell? _ _ (hHeld.2.2.2.2.2.2.2))).trans (hHeld.2.2.2.2.2.2.2)
      refine ⟨_, rfl, ?_⟩
      have n0_ := Aside0.mk (Kd.R_below (by (with_reducible repeat (first | apply Kd.R_alloc | apply Kd.R_drewN | apply Kd.R_drew)); exact HO281.out) hb)
      have n1_ := Aside0.mk (Kd.V_below (by (with_reducible repeat (first | apply Kd.V_alloc | apply Kd.V_drewN | apply Kd.V_drew)); exact HO291.out) hb)
      have n2_ := Aside0.mk (Kd.R_below (by (with_reducible repeat (first | apply Kd.R_alloc | apply Kd.R_drewN | apply Kd.R_drew)); exact HO301.out) hb)
      have n3_ := Aside0.mk (Kd.N_below (by (with_reducible repeat (first | apply Kd.N_alloc | apply Kd.N_drewN | apply Kd.N_drew)); exact HO307.out) hb)
      have n4_ := Aside0.mk (Kd.N_below (by (with_reducible repeat (first | apply Kd.N_alloc | apply Kd.N_drewN | apply Kd.N_drew)); exact HO313.out) hb)
      have n5_ := Aside0.mk (Kd.N_below (by (with_reducible repeat (first | apply Kd.N_alloc | apply Kd.N_drewN | apply Kd.N_drew)); exact HO317.out) hb)
      have n6_ := Aside0.mk (blk_below (g := gb276) (o := .cells #[.int .u32 a0_0, .slice (some ad283) l0_1.length c0_1] 26 (0, 0)) (by (with_reducible repeat (first | refine blk_drewN ?_ _ | refine blk_drew ?_ | refine blk_alloc ?_ _)); exact BK276.out) hb)
      have n7_ := Aside0.mk (blk_below (g := gb309) (o := .cells #[.int .u32 t304, .slice (some ad319) t305.length co80] 26 (0, 0)) (by (with_reducible repeat (first | refine blk_drewN ?_ _ | refine blk_drew ?_ | refine blk_alloc ?_ _)); exact BK309.out) hb)
      have n8_ := Aside0.mk (below_step (by with_reducible repeat (first | exact HB.out | apply below_alloc | apply pw_below_drewN | apply below_drew1 | refine below_set ?_ GE276.out | refine below_set ?_ GE309.out)) hb)
      clear HO281 HO291 HO301 HO307 HO313 HO317 BK276 BK309 HB
      have HO281 := n0_
      have HO291 := n1_
      have HO301 := n2_
      have HO307 := n3_
      have HO313 := n4_
      have HO317 := n5_
      have BK276 := n6_
      have BK309 := n7_
      have HB := n8_
      clear n0_ n1_ n2_ n3_ n4_ n5_ n6_ n7_ n8_
      (try clear hb); (try clear hb2); (try clear hk); (try clear hi)
      refine hK.out _ _ ⟨(blk_cell BK309.out 0).trans rfl, (blk_cell BK309.out 1).trans rfl, (blk_cell BK276.out 0).trans rfl, (blk_cell BK276.out 1).trans rfl, HS4_, HS5_, HS6_, HS7_⟩ (fun hHeld => ?_)
      clear hK K
      refine norm_ (a' := ?_) ?_ ?_
      rotate_left
      · show Act.put _ (some 80) _ = _
        simp only [Act.put, List.setIfInBounds_toArray, List.set_cons_zero, List.set_cons_succ, i64_w, i32_w]
        rfl
      refine pure_ (i := 12) (N := some 81) (v := ?_) (a' := ?_) #[tt, tt, tt, tt, tt, tt, tt, tt, tt, tt, tt, tt, tt, ff, ff, ff, ff, ff, ff, ff, ff, ff, ff, ff, ff] rfl rfl (any_of HT_.out (by kernel_rfl)) (fun _ _ _ h => h) (Or.inl ⟨by rfl, ?_⟩) ?_ ?_
      rotate_left
      · intro w'
        go_simp
        with_reducible rfl
      rotate_left
      · simp only [Act.put, List.setIfInBounds_toArray, List.set_cons_zero, List.set_cons_succ, i64_w, i32_w]
        rfl
      refine pure_ (i := 13) (N := some 82) (v := ?_) (a' := ?_) #[tt, tt, tt, tt, tt, tt, tt, tt, tt, tt, tt, tt, tt, tt, ff, ff, ff, ff, ff, ff, ff, ff, ff, ff, ff] rfl rfl (any_of HT_.out (by kernel_rfl)) (fun _ _ _ h => h) (Or.inl ⟨by rfl, ?_⟩) ?_ ?_
      rotate_left
      · intro w'
        go_simp
        with_reducible rfl
      rotate_left
      · simp only [Act.put, List.setIfInBounds_toArray, List.set_cons_zero, List.set_cons_succ, i64_w, i32_w]
        rfl
      refine pure_ (i := 14) (N := some 83) (v := ?_) (a' := ?_) #[tt, tt, tt, tt, tt, tt, tt, tt, tt, tt, tt, tt, tt, tt, tt, ff, ff, ff, ff, ff, ff, ff, ff, ff, ff] rfl rfl (any_of HT_.out (by kernel_rfl)) (fun _ _ _ h => h) (Or.inl ⟨by rfl, ?_⟩) ?_ ?_
      rotate_left
      · intro w'
        go_simp
        with_reducible rfl
      rotate_left
      · simp only [Act.put, List.setIfInBounds_toArray, List.set_cons_zero, List.set_cons_succ, i64_w, i32_w]
        rfl
      refine pure_ (i := 20) (N := some 89) (v := ?_) (a' := ?_) #[tt, tt, tt, tt, tt, tt, tt, tt, tt, tt, tt, tt, tt, tt, tt, ff, ff, ff, ff, ff, tt, ff, ff, ff, ff] rfl rfl (any_of HT_.out (by kernel_rfl)) (fun _ _ _ h => h) (Or.inl ⟨by rfl, ?_⟩) ?_ ?_
      rotate_left
      · intro w'
        go_simp
        with_reducible rfl
      rotate_left
      · simp only [Act.put, List.setIfInBounds_toArray, List.set_cons_zero, List.set_cons_succ, i64_w, i32_w]
        rfl
      refine take_ (i := 15) (N := some 84) (v := ?_) (a' := ?_) #[tt, tt, tt, tt, tt, tt, tt, tt, tt, tt, tt, tt, tt, tt, tt, tt, ff, ff, ff, ff, tt, ff, ff, ff, ff] rfl rfl (take_ofW HT_.out HW_.out (by kernel_rfl)) (fun _ _ _ h => h) (Or.inl ⟨by rfl, ?_⟩) hHeld ?_ ?_
      rotate_left
      · rintro w' ⟨s0, s1, s2, s3, s4, s5, s6, s7⟩
        go_simp
        with_reducible rfl
      rotate_left
      · simp only [Act.put, List.setIfInBounds_toArray, List.set_cons_zero, List.set_cons_succ, i64_w, i32_w]
        rfl
      refine pure_ (i := 16) (N := some 85) (v := ?_) (a' := ?_) #[tt, tt, tt, tt, tt, tt, tt, tt, tt, tt, tt, tt, tt, tt, tt, tt, tt, ff, ff, ff, tt, ff, ff, ff, ff] rfl rfl (any_of HT_.out (by kernel_rfl)) (fun _ _ _ h => h) (Or.inl ⟨by rfl, ?_⟩) ?_ ?_
      rotate_left
      · intro w'
        go_simp
        with_reducible rfl
      rotate_left
      · simp only [Act.put, List.setIfInBounds_toArray, List.set_cons_zero, List.set_cons_succ, i64_w, i32_w]
        rfl
      refine pure_ (i := 17) (N := some 86) (v := ?_) (a' := ?_) #[tt, tt, tt, tt, tt, tt, tt, tt, tt, tt, tt, tt, tt, tt, tt, tt, tt, tt, ff, ff, tt, ff, ff, ff, ff] rfl rfl (any_of HT_.out (by kernel_rfl)) (fun _ _ _ h => h) (Or.inl ⟨by rfl, ?_⟩) ?_ ?_
      rotate_left
      · intro w'
        go_simp
        with_reducible rfl
      rotate_left
      · simp only [Act.put, List.setIfInBounds_toArray, List.set_cons_zero, List.set_cons_succ, i64_w, i32_w]
        rfl
      refine take_ (i := 18) (N := some 87) (v := ?_) (a' := ?_) #[tt, tt, tt, tt, tt, tt, tt, tt, tt, tt, tt, tt, tt, tt, tt, tt, tt, tt, tt, ff, tt, ff, ff, ff, ff] rfl rfl (take_ofW HT_.out HW_.out (by kernel_rfl)) (fun _ _ _ h => h) (Or.inl ⟨by rfl, ?_⟩) hHeld ?_ ?_
      rotate_left
      · rintro w' ⟨s0, s1, s2, s3, s4, s5, s6, s7⟩
        go_simp
        with_reducible rfl
      rotate_left
      · simp only [Act.put, List.setIfInBounds_toArray, List.set_cons_zero, List.set_cons_succ, i64_w, i32_w]
        rfl
      refine pure_ (i := 19) (N := some 88) (v := ?_) (a' := ?_) #[tt, tt, tt, tt, tt, tt, tt, tt, tt, tt, tt, tt, tt, tt, tt, tt, tt, tt, tt, tt, tt, ff, ff, ff, ff] rfl rfl (any_of HT_.out (by kernel_rfl)) (fun _ _ _ h => h) (Or.inl ⟨by rfl, ?_⟩) ?_ ?_
      rotate_left
      · intro w'
        go_simp
        with_reducible rfl
      rotate_left
      · simp only [Act.put, List.setIfInBounds_toArray, List.set_cons_zero, List.set_cons_succ, i64_w, i32_w]
        rfl
      refine pure_ (i := 21) (N := some 90) (v := ?_) (a' := ?_) #[tt, tt, tt, tt, tt, tt, tt, tt, tt, tt, tt, tt, tt, tt, tt, tt, tt, tt, tt, tt, tt, tt, ff, ff, ff] rfl rfl (any_of HT_.out (by kernel_rfl)) (fun _ _ _ h => h) (Or.inl ⟨by rfl, ?_⟩) ?_ ?_
      rotate_left
      · intro w'
        go_simp
        with_reducible rfl
      rotate_left
      · simp only [Act.put, List.setIfInBounds_toArray, List.set_cons_zero, List.set_cons_succ, i64_w, i32_w]
        rfl
      refine pure_ (i := 22) (N := some 91) (v := ?_) (a' := ?_) #[tt, tt, tt, tt, tt, tt, tt, tt, tt, tt, tt, tt, tt, tt, tt, tt, tt, tt, tt, tt, tt, tt, tt, ff, ff] rfl rfl (any_of HT_.out (by kernel_rfl)) (fun _ _ _ h => h) (Or.inl ⟨by rfl, ?_⟩) ?_ ?_
      rotate_left
      · intro w'
        go_simp
        with_reducible rfl
      rotate_left
      · simp only [Act.put, List.setIfInBounds_toArray, List.set_cons_zero, List.set_cons_succ, i64_w, i32_w]
        rfl
      refine pure_ (i := 23) (N := some 92) (v := ?_) (a' := ?_) #[tt, tt, tt, tt, tt, tt, tt, tt, tt, tt, tt, tt, tt, tt, tt, tt, tt, tt, tt, tt, tt, tt, tt, tt, ff] rfl rfl (any_of HT_.out (by kernel_rfl)) (fun _ _ _ h => h) (Or.inl ⟨by rfl, ?_⟩) ?_ ?_
      rotate_left
      · intro w'
        go_simp
        with_reducible rfl
      rotate_left
      · simp only [Act.put, List.setIfInBounds_toArray, List.set_cons_zero, List.set_cons_succ, i64_w, i32_w]
        rfl
      refine pure_ (i := 24) (N := some 4) (v := ?_) (a' := ?_) #[tt, tt, tt, tt, tt, tt, tt, tt, tt, tt, tt, tt, tt, tt, tt, tt, tt, tt, tt, tt, tt, tt, tt, tt, tt] rfl rfl (any_of HT_.out (by kernel_rfl)) (fun _ _ _ h => h) (Or.inl ⟨by rfl, ?_⟩) ?_ ?_
      rotate_left
      · intro w'
        go_simp
        with_reducible rfl
      rotate_left
      · simp only [Act.put, List.setIfInBounds_toArray, List.set_cons_zero, List.set_cons_succ, i64_w, i32_w]
        rfl
      refine done_ (done_of HT_.out (by kernel_rfl)) ?_
      try go_wp2
      go_ret
      exact ⟨by first | rfl | (simp [errW_none, errW_some] <;> rfl) | (simp [*, errW_none, errW_some] <;> rfl), by with_reducible repeat (first | exact HB.out | apply below_alloc | apply pw_below_drewN | apply below_drew1 | refine below_set ?_ GE276.out | refine below_set ?_ GE309.out)⟩
end Go.Proofs.Ytcjaepmecihmlaa.Img
