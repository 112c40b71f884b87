/- What policy.Put writes: the walk of the program's Put against a plain function on lists (its lines began as print.sh's). -/
import Derived.Test.YtlhoaejkjhdlgaaPPolicyBytesx0
import Derived.Lib.SlBytesConst
import Derived.ArgAppend
import Derived.Test.YtlhoaejkjhdlgaaPPolicyBytesx3
namespace Go.Proofs.Ytlhoaejkjhdlgaa.PPolicyBytes
open Go.RowKit Go.Proofs.YtlhoaejkjhdlgaaW.PrintWords Go.Proofs.YtlhoaejkjhdlgaaW.PrintLast Go.Proofs.YtlhoaejkjhdlgaaW.PrintMore
attribute [local go_sem] max2_int min2_int max_two min_two max_three min_three max_four min_four   -- for this text's walks alone
set_option linter.unusedVariables false
set_option linter.unusedSimpArgs false

/-! ### policy_Put: function 11 -/
mutual
def policy_Put.j0 : Nat → List Int → Bool → List (S35) → List (S37) → Option (List Int × Int)
  | 0, _, _, _, _ => none
  | k + 1, x4, x120000, x120001, x120002 => (some (([((x120001.length : Int)) % 256] : List Int) : List Int)).bind fun y136 => (if x4.length + y136.length < 140737488355328 then (policy_Put.l0 k (x4 ++ y136) x120001 (x120001.length : Int) 0 x120000 x120001 x120002) else (none))
def policy_Put.l0 : Nat → List Int → List (S35) → Int → Int → Bool → List (S35) → List (S37) → Option (List Int × Int)
  | 0, _, _, _, _, _, _, _ => none
  | k + 1, x4, x30, x31, x32, x120000, x120001, x120002 => if x32 < x31 then (if 0 ≤ x32 then (if x32 < (x30.length : Int) then ((some (([((rd_T35 x30 x32).f0) % 256] : List Int) : List Int)).bind fun y144 => (if x4.length + y144.length < 140737488355328 then ((policy_four.f (x4 ++ y144) ((rd_T35 x30 x32).f1)).bind fun t150 => ((policy_four.f t150 ((rd_T35 x30 x32).f2)).bind fun t153 => ((some (([(rd_T35 x30 x32).f3] : List Int) : List Int)).bind fun y156 => (if t153.length + y156.length < 140737488355328 then (policy_Put.l0 k (t153 ++ y156) x30 x31 (wrap64 (x32 + 1)) x120000 x120001 x120002) else (none))))) else (none))) else (none)) else (none)) else ((some (([((x120002.length : Int)) % 256] : List Int) : List Int)).bind fun y162 => (if x4.length + y162.length < 140737488355328 then (policy_Put.l1 k (x4 ++ y162) x120002 (x120002.length : Int) 0) else (none)))
def policy_Put.l1 : Nat → List Int → List (S37) → Int → Int → Option (List Int × Int)
  | 0, _, _, _, _ => none
  | k + 1, x4, x61, x62, x63 => if x63 < x62 then (if 0 ≤ x63 then (if x63 < (x61.length : Int) then ((some (([((rd_T37 x61 x63).f0) % 256, ((rd_T37 x61 x63).f1) % 256, (rd_T37 x61 x63).f2] : List Int) : List Int)).bind fun y170 => (if x4.length + y170.length < 140737488355328 then (policy_Put.l1 k (x4 ++ y170) x61 x62 (wrap64 (x63 + 1))) else (none))) else (none)) else (none)) else (some (x4, 0))
end
def policy_Put.f (k : Nat) (a0_0 : Bool) (l0_1 : List (S35)) (l0_2 : List (S37)) : Option (List Int × Int) := (policy_Good.f k a0_0 l0_1 l0_2).bind fun t120 => (if t120 = true then ((some (([84, 80, 49] : List Int) : List Int)).bind fun y121 => (if a0_0 = true then ((some (([1] : List Int) : List Int)).bind fun y124 => (if y121.length + y124.length < 140737488355328 then (policy_Put.j0 k (y121 ++ y124) a0_0 l0_1 l0_2) else (none))) else ((some (([0] : List Int) : List Int)).bind fun y130 => (if y121.length + y130.length < 140737488355328 then (policy_Put.j0 k (y121 ++ y130) a0_0 l0_1 l0_2) else (none))))) else (some (([] : List Int), 1)))
theorem policy_Put.mono_l : ∀ k, (∀ y0 y1 y2 y3, LeO (policy_Put.j0 k y0 y1 y2 y3) (policy_Put.j0 (k + 1) y0 y1 y2 y3)) ∧ (∀ y0 y1 y2 y3 y4 y5 y6, LeO (policy_Put.l0 k y0 y1 y2 y3 y4 y5 y6) (policy_Put.l0 (k + 1) y0 y1 y2 y3 y4 y5 y6)) ∧ (∀ y0 y1 y2 y3, LeO (policy_Put.l1 k y0 y1 y2 y3) (policy_Put.l1 (k + 1) y0 y1 y2 y3))
  | 0 => ⟨fun _ _ _ _ r h => by simp [policy_Put.j0] at h, fun _ _ _ _ _ _ _ r h => by simp [policy_Put.l0] at h, fun _ _ _ _ r h => by simp [policy_Put.l1] at h⟩
  | k + 1 => by
    obtain ⟨ih0, ih1, ih2⟩ := policy_Put.mono_l k
    refine ⟨?_, ?_, ?_⟩
    · intro y0 y1 y2 y3
      unfold policy_Put.j0
      repeat' first
      | (with_reducible exact ih0 _ _ _ _)
      | (with_reducible exact ih1 _ _ _ _ _ _ _)
      | (with_reducible exact ih2 _ _ _ _)
      | (with_reducible exact policy_Good.mono _ _ _ _)
      | (with_reducible exact LeO.refl _)
      | (with_reducible exact LeO.none _)
      | (with_reducible refine LeO.ite ?_ ?_)
      | (with_reducible refine LeO.bind ?_ (fun _ => ?_))
      | exact ih0 _ _ _ _
      | exact ih1 _ _ _ _ _ _ _
      | exact ih2 _ _ _ _
      | exact policy_Good.mono _ _ _ _
      | exact LeO.none _
      | refine LeO.ite ?_ ?_
      | refine LeO.bind ?_ (fun _ => ?_)
    · intro y0 y1 y2 y3 y4 y5 y6
      unfold policy_Put.l0
      repeat' first
      | (with_reducible exact ih0 _ _ _ _)
      | (with_reducible exact ih1 _ _ _ _ _ _ _)
      | (with_reducible exact ih2 _ _ _ _)
      | (with_reducible exact policy_Good.mono _ _ _ _)
      | (with_reducible exact LeO.refl _)
      | (with_reducible exact LeO.none _)
      | (with_reducible refine LeO.ite ?_ ?_)
      | (with_reducible refine LeO.bind ?_ (fun _ => ?_))
      | exact ih0 _ _ _ _
      | exact ih1 _ _ _ _ _ _ _
      | exact ih2 _ _ _ _
      | exact policy_Good.mono _ _ _ _
      | exact LeO.none _
      | refine LeO.ite ?_ ?_
      | refine LeO.bind ?_ (fun _ => ?_)
    · intro y0 y1 y2 y3
      unfold policy_Put.l1
      repeat' first
      | (with_reducible exact ih0 _ _ _ _)
      | (with_reducible exact ih1 _ _ _ _ _ _ _)
      | (with_reducible exact ih2 _ _ _ _)
      | (with_reducible exact policy_Good.mono _ _ _ _)
      | (with_reducible exact LeO.refl _)
      | (with_reducible exact LeO.none _)
      | (with_reducible refine LeO.ite ?_ ?_)
      | (with_reducible refine LeO.bind ?_ (fun _ => ?_))
      | exact ih0 _ _ _ _
      | exact ih1 _ _ _ _ _ _ _
      | exact ih2 _ _ _ _
      | exact policy_Good.mono _ _ _ _
      | exact LeO.none _
      | refine LeO.ite ?_ ?_
      | refine LeO.bind ?_ (fun _ => ?_)
theorem policy_Put.mono : ∀ a0 a1 a2 k, LeO (policy_Put.f k a0 a1 a2) (policy_Put.f (k + 1) a0 a1 a2) := by
  intro a0 a1 a2 k
  obtain ⟨ih0, ih1, ih2⟩ := policy_Put.mono_l k
  unfold policy_Put.f
  repeat' first
      | (with_reducible exact ih0 _ _ _ _)
      | (with_reducible exact ih1 _ _ _ _ _ _ _)
      | (with_reducible exact ih2 _ _ _ _)
      | (with_reducible exact policy_Good.mono _ _ _ _)
      | (with_reducible exact LeO.refl _)
      | (with_reducible exact LeO.none _)
      | (with_reducible refine LeO.ite ?_ ?_)
      | (with_reducible refine LeO.bind ?_ (fun _ => ?_))
      | exact ih0 _ _ _ _
      | exact ih1 _ _ _ _ _ _ _
      | exact ih2 _ _ _ _
      | exact policy_Good.mono _ _ _ _
      | exact LeO.none _
      | refine LeO.ite ?_ ?_
      | refine LeO.bind ?_ (fun _ => ?_)
def policy_Put.T11 : Bool × List (List Nat × List Nat) := (true, [([], []), ([], []), ([1], [1]), ([2], [2]), ([3], [3]), ([0, 4], [0, 4]), ([], []), ([6], [6]), ([5, 7, 5], [5, 7]), ([], []), ([9], [9]), ([8, 10, 8], [8, 10]), ([], []), ([12], [12]), ([13], [13]), ([11, 14, 11], [11, 14]), ([15, 15, 0, 1, 2, 3, 4, 5, 6, 7, 8, 9, 10, 11, 12, 13, 14, 15], [0, 15])])
def policy_Put.B11 : List Nat := [0, 0, 2, 6, 14, 31, 0, 64, 255, 0, 512, 2047, 0, 4096, 12288, 32767, 65535]
theorem policy_Put.tab11 : rtab .any (opsOf Try.f11 11) = policy_Put.T11 := by kernel_rfl
theorem policy_Put.bits11 : waitsOk policy_Put.T11.2 policy_Put.B11 = true := by kernel_rfl
theorem put_info5 : (Try.prog.info? 5).map (fun i => (i.zero, i.size, i.bytes)) = some (some (.int .u8 0), 1, 1) := by kernel_rfl
theorem put_row {w w7 w15 : World} {o1 o2 : Obj} {v : Value} {x : Int} {ys : List Int} (hB : Below w.heap.size w w7) (h : w15.ownsRow ((w7.alloc o1).alloc o2).heap.size 5 1 v (3 + 1) ([.int .u8 84, .int .u8 80, .int .u8 49] ++ [.int .u8 x])) (hy : ys = [84, 80, 49, x]) :
    Kd.R (Kd.int .u8) 5 w15 w.heap.size (fun _ => True) v ys := by
  subst hy
  have h2 := own_weaken h (base' := w.heap.size) (by have := hB.size; simp; omega)
  exact Kd.R_of_own (xs := [84, 80, 49, x]) (enc := Value.int .u8) h2 (fun _ _ => trivial)
theorem put_below {w w7 w15 : World} {o1 o2 : Obj} (hB : Below w.heap.size w w7) (hg : ((w7.alloc o1).alloc o2).grownBy w15 none) : Below w.heap.size w w15 :=
  pw_below_grown (below_alloc (below_alloc hB o1) o2) none (by have := hB.size; simp; omega) hg (by simp)
theorem put_cell1 (w : World) (C : Array Value) (t : TypeId) (fr : Nat × Nat) (o : Obj) (j : Nat) : ((w.alloc (.cells C t fr)).alloc o).cell? ⟨w.heap.size, j, none⟩ = C[j]? := by
  have h := blk_alloc (blk_new w (.cells C t fr)) o
  simp [World.cell?, h]
theorem put_cell2 (w : World) (o : Obj) (C : Array Value) (t : TypeId) (fr : Nat × Nat) (j : Nat) : ((w.alloc o).alloc (.cells C t fr)).cell? ⟨w.heap.size + 1, j, none⟩ = C[j]? := by
  have h := blk_new (w.alloc o) (.cells C t fr)
  rw [show (w.alloc o).heap.size = w.heap.size + 1 by simp] at h
  unfold World.cell?
  rw [h]
  simp
theorem put_add (g j : Nat) : (⟨g, 0, none⟩ : Addr).add j = ⟨g, j, none⟩ := add_plain g j
set_option maxHeartbeats 8000000 in
set_option maxRecDepth 100000 in
theorem policy_Put.calls (k : Nat) (a0_0 : Bool) (A0_1 : Option Addr) (c0_1 : Nat) (l0_1 : List (S35)) (A0_2 : Option Addr) (c0_2 : Nat) (l0_2 : List (S37)) (r1 : List Int) (r2 : Int) (w : World) (hr0_1 : Kd.C k35 w A0_1 l0_1.length l0_1) (hc0_1 : l0_1.length ≤ c0_1) (hr0_2 : Kd.C k37 w A0_2 l0_2.length l0_2) (hc0_2 : l0_2.length ≤ c0_2) (h : policy_Put.f k a0_0 l0_1 l0_2 = some (r1, r2)) :
    Calls Try.prog 11 #[.agg #[.bool a0_0, .slice A0_1 l0_1.length c0_1, .slice A0_2 l0_2.length c0_2]] w fun e w' => ∃ v0_ : Value, e = .returned (.tuple #[v0_, .int .i64 r2]) ∧ Kd.R (Kd.int .u8) 5 w' w.heap.size (fun _ => True) v0_ r1 ∧ Below w.heap.size w w' := by
  have hu26 := Try.underlying26
  have hu35 := Try.underlying35
  have hu37 := Try.underlying37
  have HR0_1 := Aside0.mk hr0_1
  have HC0_1 := Aside0.mk hc0_1
  clear hr0_1 hc0_1
  have HR0_2 := Aside0.mk hr0_2
  have HC0_2 := Aside0.mk hc0_2
  clear hr0_2 hc0_2
  have HB := Aside0.mk (Below.refl w.heap.size w)
  have H : ((policy_Good.f k a0_0 l0_1 l0_2).bind fun t120 => (if t120 = true then ((some (([84, 80, 49] : List Int) : List Int)).bind fun y121 => (if a0_0 = true then ((some (([1] : List Int) : List Int)).bind fun y124 => (if y121.length + y124.length < 140737488355328 then (policy_Put.j0 k (y121 ++ y124) a0_0 l0_1 l0_2) else (none))) else ((some (([0] : List Int) : List Int)).bind fun y130 => (if y121.length + y130.length < 140737488355328 then (policy_Put.j0 k (y121 ++ y130) a0_0 l0_1 l0_2) else (none))))) else (some (([] : List Int), 1)))) = some (r1, r2) := h
  clear h
  replace H := Option.bind_eq_some_iff.mp H
  obtain ⟨t120, A20, H⟩ := H
  replace H : (if t120 = true then ((some (([84, 80, 49] : List Int) : List Int)).bind fun y121 => (if a0_0 = true then ((some (([1] : List Int) : List Int)).bind fun y124 => (if y121.length + y124.length < 140737488355328 then (policy_Put.j0 k (y121 ++ y124) a0_0 l0_1 l0_2) else (none))) else ((some (([0] : List Int) : List Int)).bind fun y130 => (if y121.length + y130.length < 140737488355328 then (policy_Put.j0 k (y121 ++ y130) a0_0 l0_1 l0_2) else (none))))) else (some (([] : List Int), 1))) = some (r1, r2) := H
  have A2 := Aside0.mk A20
  clear A20
  by_cases c3 : t120 = true
  · subst c3
    have H1 : ((some (([84, 80, 49] : List Int) : List Int)).bind fun y121 => (if a0_0 = true then ((some (([1] : List Int) : List Int)).bind fun y124 => (if y121.length + y124.length < 140737488355328 then (policy_Put.j0 k (y121 ++ y124) a0_0 l0_1 l0_2) else (none))) else ((some (([0] : List Int) : List Int)).bind fun y130 => (if y121.length + y130.length < 140737488355328 then (policy_Put.j0 k (y121 ++ y130) a0_0 l0_1 l0_2) else (none))))) = some (r1, r2) := by rw [if_pos rfl] at H; exact H
    clear H
    have H := H1
    clear H1
    obtain ⟨y121, hy121⟩ : ∃ y_ : List Int, y_ = (([84, 80, 49] : List Int)) := ⟨_, rfl⟩
    replace H : (if a0_0 = true then ((some (([1] : List Int) : List Int)).bind fun y124 => (if y121.length + y124.length < 140737488355328 then (policy_Put.j0 k (y121 ++ y124) a0_0 l0_1 l0_2) else (none))) else ((some (([0] : List Int) : List Int)).bind fun y130 => (if y121.length + y130.length < 140737488355328 then (policy_Put.j0 k (y121 ++ y130) a0_0 l0_1 l0_2) else (none)))) = some (r1, r2) := by first | (rw [hy121]; with_reducible exact H) | (have H2_ := (Option.bind_some _ _).symm.trans H; rw [hy121]; with_reducible exact H2_) | (have H2_ := (Option.bind_some _ _).symm.trans H; with_reducible exact H2_) | with_reducible exact H | (rw [hy121]; exact H) | exact H
    have Ny121 := Aside0.mk hy121
    clear hy121
    have HC4 := Aside0.mk H
    clear H
    have kc := fun (w : World) (C : Array Value) (n c : Nat) => Lib.run_convert_bytes_const (P := Try.prog) w 30 5 C n c Try.underlying30 Try.underlying5
    obtain ⟨i5, hi5, hz5, hs5, hb5⟩ := info_parts put_info5
    have HI5 := Aside0.mk hi5; have HZ5 := Aside0.mk hz5; have HS5 := Aside0.mk hs5; have HB5 := Aside0.mk hb5
    clear hi5 hz5 hs5 hb5
    go_enter Try.func11, Try.ntmps11
    go_upto_if 15 with (first | ((with_reducible refine gate_dst (N := 1) rfl ?_); refine box_event ?hg (N := 1) ?hd (cs := #[.bool a0_0, .slice A0_1 l0_1.length c0_1, .slice A0_2 l0_2.length c0_2]) (t := 26) ?hr ?_; (case hd => rfl); (case hg => rfl); (case hr => first | (go_simp; done) | (go_simp; rfl)); intro gb119 hg w5 hbox hb; have n0_ := Aside0.mk (below_step (by repeat (first | (with_reducible first | exact HB.out | apply below_alloc | apply pw_below_drewN | apply below_drew1) | exact HB.out)) hb); have n1_ := Aside0.mk (hbox); have n2_ := Aside0.mk ((by rw [hg]; exact (below_size (by repeat (first | (with_reducible first | exact HB.out | apply below_alloc | apply pw_below_drewN | apply below_drew1) | exact HB.out))) : w.heap.size ≤ gb119)); have n3_ := Aside0.mk ((by rw [hg]; exact (below_size (by repeat (first | (with_reducible first | exact HB.out | apply below_alloc | apply pw_below_drewN | apply below_drew1) | exact HB.out))) : w.heap.size ≤ gb119)); clear HB; have HB := n0_; have BK119 := n1_; have GW119 := n2_; have GE119 := n3_; clear n0_ n1_ n2_ n3_; clear hb hbox hg; have hcz6_0 : w5.cell? ⟨gb119, 0, none⟩ = some (.bool a0_0) := (blk_cell BK119.out 0).trans rfl; have hcz6_1 : w5.cell? ⟨gb119, 1, none⟩ = some (.slice A0_1 l0_1.length c0_1) := (blk_cell BK119.out 1).trans rfl; have hcz6_2 : w5.cell? ⟨gb119, 2, none⟩ = some (.slice A0_2 l0_2.length c0_2) := (blk_cell BK119.out 2).trans rfl; have hfz6_0 := blk_frozen BK119.out 0; have hfz6_1 := blk_frozen BK119.out 1; have hfz6_2 := blk_frozen BK119.out 2) | ((with_reducible refine gate_callee (f := 24) rfl ?_); refine goesL_ (some 10) rfl rfl Try.func24 (by kernel_rfl) rfl #[.agg #[.bool a0_0, .slice A0_1 l0_1.length c0_1, .slice A0_2 l0_2.length c0_2]] rfl (by (try simp only [List.map_toArray, List.map_cons, List.map_nil]); first | done | rfl | (simp only [List.length_drop, List.length_take]; rfl)) ?_; (with_reducible refine (policy_Good.calls k a0_0 _ _ l0_1 _ _ l0_2 true _ ?side1 ?side2 ?side3 ?side4 A2.out).mono ?_); (case side1 => repeat (first | exact (Kd.C_below HR0_1.out HB.out) | (with_reducible refine Kd.C_alloc ?_ _) | (with_reducible refine Kd.C_drewN ?_ _) | (with_reducible refine Kd.C_drew ?_))); (case side2 => exact HC0_1.out); (case side3 => repeat (first | exact (Kd.C_below HR0_2.out HB.out) | (with_reducible refine Kd.C_alloc ?_ _) | (with_reducible refine Kd.C_drewN ?_ _) | (with_reducible refine Kd.C_drew ?_))); (case side4 => exact HC0_2.out); rintro e w7 ⟨rfl, hb⟩; refine ⟨_, rfl, ?_⟩; have n0_ := Aside0.mk (blk_below (g := gb119) (o := .cells #[.bool a0_0, .slice A0_1 l0_1.length c0_1, .slice A0_2 l0_2.length c0_2] 26 (0, 0)) (by (with_reducible repeat (first | refine blk_drewN ?_ _ | refine blk_drew ?_ | refine blk_alloc ?_ _)); exact BK119.out) hb); have n1_ := Aside0.mk (below_step (by repeat (first | (with_reducible first | exact HB.out | apply below_alloc | apply pw_below_drewN | apply below_drew1 | refine below_set ?_ GE119.out) | exact HB.out)) hb); clear BK119; clear HB; have BK119 := n0_; have HB := n1_; clear n0_ n1_; (try clear hb); (try clear hb2); (try clear hk); (try clear hi); have hcz10_0 : ∀ o, (w7.alloc o).cell? ⟨gb119, 0, none⟩ = some (.bool a0_0) := fun o => (blk_cell (blk_alloc BK119.out o) 0).trans rfl))
    (try simp only [Act.put, List.setIfInBounds_toArray, List.set_cons_zero, List.set_cons_succ])
    go_cut [4] (fun v4 wc => ∃ (kq : Nat) (x4_3 : List Int), Aside0 (policy_Put.j0 kq x4_3 a0_0 l0_1 l0_2 = some (r1, r2)) ∧ Aside0 (kq ≤ k) ∧ Aside0 (Kd.R (Kd.int .u8) 5 wc w.heap.size (fun _ => True) v4 x4_3) ∧ Aside0 (wc.heap[gb119]? = some (.cells #[.bool a0_0, (.slice A0_1 l0_1.length c0_1), (.slice A0_2 l0_2.length c0_2)] 26 (0, 0))) ∧ Aside0 (Below w.heap.size w wc))
    case first =>
      have H := HC4.out
      clear HC4
      by_cases c11 : a0_0 = true
      · subst c11
        have H1 : ((some (([1] : List Int) : List Int)).bind fun y124 => (if y121.length + y124.length < 140737488355328 then (policy_Put.j0 k (y121 ++ y124) true l0_1 l0_2) else (none))) = some (r1, r2) := by rw [if_pos rfl] at H; exact H
        clear H
        have H := H1
        clear H1
        obtain ⟨y124, hy124⟩ : ∃ y_ : List Int, y_ = (([1] : List Int)) := ⟨_, rfl⟩
        replace H : (if y121.length + y124.length < 140737488355328 then (policy_Put.j0 k (y121 ++ y124) true l0_1 l0_2) else (none)) = some (r1, r2) := by first | (rw [hy124]; with_reducible exact H) | (have H2_ := (Option.bind_some _ _).symm.trans H; rw [hy124]; with_reducible exact H2_) | (have H2_ := (Option.bind_some _ _).symm.trans H; with_reducible exact H2_) | with_reducible exact H | (rw [hy124]; exact H) | exact H
        have Ny124 := Aside0.mk hy124
        clear hy124
        by_cases c12 : y121.length + y124.length < 140737488355328
        · rw [if_pos c12] at H
          have LMc12 := Aside0.mk c12
          clear c12
          obtain ⟨y127, hy127⟩ : ∃ y_ : List Int, y_ = (y121 ++ y124) := ⟨_, rfl⟩
          replace H : (policy_Put.j0 k y127 true l0_1 l0_2) = some (r1, r2) := by first | (rw [hy127]; with_reducible exact H) | (have H2_ := (Option.bind_some _ _).symm.trans H; rw [hy127]; with_reducible exact H2_) | (have H2_ := (Option.bind_some _ _).symm.trans H; with_reducible exact H2_) | with_reducible exact H | (rw [hy127]; exact H) | exact H
          have Ny127 := Aside0.mk hy127
          clear hy127
          have H' := Aside0.mk H
          clear H
          go_wp2_with (at_builtin; refine wpList_append_grows (P := Try.prog) ((w7.alloc (.cells #[.int .u8 84, .int .u8 80, .int .u8 49] 5 (3, 4))).alloc (.cells #[.int .u8 1] 5)) rfl (.tmp 16) (.tmp 17) 30 rfl 5 i5 (.int .u8 0) 1 1 Try.underlying30 HI5.out HZ5.out HS5.out HB5.out rfl (by decide) (some ⟨w7.heap.size, 0, none⟩) 3 3 [.int .u8 84, .int .u8 80, .int .u8 49] rfl (fun h => by cases h) rfl (by intro b hb j u hu; injection hb with hb; subst hb; rw [put_add, put_cell1]; simpa using hu) ⟨w7.heap.size + 1, 0, none⟩ 1 1 [.int .u8 1] rfl rfl (by intro j u hu; rw [put_add, put_cell2]; simpa using hu) (by intro u hu; rw [List.mem_singleton.1 hu]; rfl) (by decide) (by decide) (by decide) ?_; intro v128 w15 hown hgr; have HO129 := Aside0.mk (put_row (ys := y127) HB.out hown (by rw [Ny127.out, Ny121.out, Ny124.out]; rfl)); have n1_ := Aside0.mk (blk_grown (blk_alloc (blk_alloc BK119.out _) _) hgr (by simp)); have n2_ := Aside0.mk (put_below HB.out hgr); clear BK119; clear HB; have BK119 := n1_; have HB := n2_; clear n1_ n2_ hown hgr)
          go_meet
          case rel => exact ⟨_, (y127), H', ⟨by first | omega | exact Nat.le_refl _⟩, ⟨by (with_reducible repeat (first | apply Kd.R_alloc | apply Kd.R_drewN | apply Kd.R_drew)); exact Kd.R_mono HO129.out (fun _ hk => trivial)⟩, ⟨by (with_reducible repeat (first | refine blk_drewN ?_ _ | refine blk_drew ?_ | refine blk_alloc ?_ _)); exact BK119.out⟩, ⟨by repeat (first | (with_reducible first | exact HB.out | apply below_alloc | apply pw_below_drewN | apply below_drew1 | refine below_set ?_ GE119.out) | exact HB.out)⟩⟩
        · rw [if_neg c12] at H
          exact absurd H (by simp)
      · replace c11 := Bool.eq_false_iff.mpr c11
        subst c11
        have H1 : ((some (([0] : List Int) : List Int)).bind fun y130 => (if y121.length + y130.length < 140737488355328 then (policy_Put.j0 k (y121 ++ y130) false l0_1 l0_2) else (none))) = some (r1, r2) := by rw [if_neg (show ¬ (false = true) by decide)] at H; exact H
        clear H
        have H := H1
        clear H1
        obtain ⟨y130, hy130⟩ : ∃ y_ : List Int, y_ = (([0] : List Int)) := ⟨_, rfl⟩
        replace H : (if y121.length + y130.length < 140737488355328 then (policy_Put.j0 k (y121 ++ y130) false l0_1 l0_2) else (none)) = some (r1, r2) := by first | (rw [hy130]; with_reducible exact H) | (have H2_ := (Option.bind_some _ _).symm.trans H; rw [hy130]; with_reducible exact H2_) | (have H2_ := (Option.bind_some _ _).symm.trans H; with_reducible exact H2_) | with_reducible exact H | (rw [hy130]; exact H) | exact H
        have Ny130 := Aside0.mk hy130
        clear hy130
        by_cases c17 : y121.length + y130.length < 140737488355328
        · rw [if_pos c17] at H
          have LMc17 := Aside0.mk c17
          clear c17
          obtain ⟨y133, hy133⟩ : ∃ y_ : List Int, y_ = (y121 ++ y130) := ⟨_, rfl⟩
          replace H : (policy_Put.j0 k y133 false l0_1 l0_2) = some (r1, r2) := by first | (rw [hy133]; with_reducible exact H) | (have H2_ := (Option.bind_some _ _).symm.trans H; rw [hy133]; with_reducible exact H2_) | (have H2_ := (Option.bind_some _ _).symm.trans H; with_reducible exact H2_) | with_reducible exact H | (rw [hy133]; exact H) | exact H
          have Ny133 := Aside0.mk hy133
          clear hy133
          have H' := Aside0.mk H
          clear H
          go_wp2_with (at_builtin; refine wpList_append_grows (P := Try.prog) ((w7.alloc (.cells #[.int .u8 84, .int .u8 80, .int .u8 49] 5 (3, 4))).alloc (.cells #[.int .u8 0] 5)) rfl (.tmp 19) (.tmp 20) 30 rfl 5 i5 (.int .u8 0) 1 1 Try.underlying30 HI5.out HZ5.out HS5.out HB5.out rfl (by decide) (some ⟨w7.heap.size, 0, none⟩) 3 3 [.int .u8 84, .int .u8 80, .int .u8 49] rfl (fun h => by cases h) rfl (by intro b hb j u hu; injection hb with hb; subst hb; rw [put_add, put_cell1]; simpa using hu) ⟨w7.heap.size + 1, 0, none⟩ 1 1 [.int .u8 0] rfl rfl (by intro j u hu; rw [put_add, put_cell2]; simpa using hu) (by intro u hu; rw [List.mem_singleton.1 hu]; rfl) (by decide) (by decide) (by decide) ?_; intro v128 w15 hown hgr; have HO135 := Aside0.mk (put_row (ys := y133) HB.out hown (by rw [Ny133.out, Ny121.out, Ny130.out]; rfl)); have n1_ := Aside0.mk (blk_grown (blk_alloc (blk_alloc BK119.out _) _) hgr (by simp)); have n2_ := Aside0.mk (put_below HB.out hgr); clear BK119; clear HB; have BK119 := n1_; have HB := n2_; clear n1_ n2_ hown hgr)
          go_meet
          case rel => exact ⟨_, (y133), H', ⟨by first | omega | exact Nat.le_refl _⟩, ⟨by (with_reducible repeat (first | apply Kd.R_alloc | apply Kd.R_drewN | apply Kd.R_drew)); exact Kd.R_mono HO135.out (fun _ hk => trivial)⟩, ⟨by (with_reducible repeat (first | refine blk_drewN ?_ _ | refine blk_drew ?_ | refine blk_alloc ?_ _)); exact BK119.out⟩, ⟨by repeat (first | (with_reducible first | exact HB.out | apply below_alloc | apply pw_below_drewN | apply below_drew1 | refine below_set ?_ GE119.out) | exact HB.out)⟩⟩
        · rw [if_neg c17] at H
          exact absurd H (by simp)
    case rest =>
      clear HC4
      try clear c1
      try clear c2
      try clear p2
      try clear c3
      try clear c11
      try clear c12
      try clear c17
      try clear hcz10_0
      try clear hcz10_1
      try clear hcz10_2
      try clear hcz6_0
      try clear hcz6_1
      try clear hcz6_2
      try clear hfz10_0
      try clear hfz10_1
      try clear hfz10_2
      try clear hfz6_0
      try clear hfz6_1
      try clear hfz6_2
      obtain ⟨kq, x4_3, HA, HJ3, HO_4, BK119, HB⟩ := hcut
      cases kq with
      | zero => exact absurd HA.out (by simp [policy_Put.j0])
      | succ kj3 =>
        have H := HA.out
        clear HA
        simp only [policy_Put.j0] at H
        obtain ⟨y136, hy136⟩ : ∃ y_ : List Int, y_ = (([((l0_1.length : Int)) % 256] : List Int)) := ⟨_, rfl⟩
        replace H : (if x4_3.length + y136.length < 140737488355328 then (policy_Put.l0 kj3 (x4_3 ++ y136) l0_1 (l0_1.length : Int) 0 a0_0 l0_1 l0_2) else (none)) = some (r1, r2) := by first | (rw [hy136]; with_reducible exact H) | (have H2_ := (Option.bind_some _ _).symm.trans H; rw [hy136]; with_reducible exact H2_) | (have H2_ := (Option.bind_some _ _).symm.trans H; with_reducible exact H2_) | with_reducible exact H | (rw [hy136]; exact H) | exact H
        have Ny136 := Aside0.mk hy136
        clear hy136
        by_cases c22 : x4_3.length + y136.length < 140737488355328
        · rw [if_pos c22] at H
          have LMc22 := Aside0.mk c22
          clear c22
          obtain ⟨y139, hy139⟩ : ∃ y_ : List Int, y_ = (x4_3 ++ y136) := ⟨_, rfl⟩
          replace H : (policy_Put.l0 kj3 y139 l0_1 (l0_1.length : Int) 0 a0_0 l0_1 l0_2) = some (r1, r2) := by first | (rw [hy139]; with_reducible exact H) | (have H2_ := (Option.bind_some _ _).symm.trans H; rw [hy139]; with_reducible exact H2_) | (have H2_ := (Option.bind_some _ _).symm.trans H; with_reducible exact H2_) | with_reducible exact H | (rw [hy139]; exact H) | exact H
          have Ny139 := Aside0.mk hy139
          clear hy139
          have H' := Aside0.mk H
          clear H
          have hcz23_0 : wc.cell? ⟨gb119, 0, none⟩ = some (.bool a0_0) := (blk_cell BK119.out 0).trans rfl
          have hcz23_1 : wc.cell? ⟨gb119, 1, none⟩ = some (.slice A0_1 l0_1.length c0_1) := (blk_cell BK119.out 1).trans rfl
          have hcz23_2 : wc.cell? ⟨gb119, 2, none⟩ = some (.slice A0_2 l0_2.length c0_2) := (blk_cell BK119.out 2).trans rfl
          have hfz23_0 := blk_frozen BK119.out 0
          have hfz23_1 := blk_frozen BK119.out 1
          have hfz23_2 := blk_frozen BK119.out 2
          go_wp2_with (first | ((with_reducible refine gate_dst (N := 27) rfl ?_); refine Kd.R_lit (Kd.int .u8) _ 5 ?hg (N := 27) ?hd (xs := ([((l0_1.length : Int)) % 256] : List Int)) (inner := [.int .u8 (((l0_1.length : Int)) % 256)]) (ok := fun _ => True) (okp := fun _ => True) ?hr ?hp (fun _ hk => hk) trivial (Below.refl _ _) (Nat.le_refl _) (by simp) ?_; (case hd => rfl); (case hg => rfl); (case hr => first | (go_simp; done) | (go_simp; rfl)); (case hp => exact (Reps.one (show Kd.M (Kd.int .u8) _ _ _ (((l0_1.length : Int)) % 256) [.int .u8 (((l0_1.length : Int)) % 256)] from rfl) (Reps.none _ _))); intro v137 w24 ho25 hb hg_ hnew_; clear hg_ hnew_; (first | rw [← Ny136.out] at ho25 | (simp only [Int.reduceToNat] at ho25; rw [← Ny136.out] at ho25)); have n0_ := Aside0.mk (Kd.R_elder' (by (with_reducible repeat (first | apply Kd.R_alloc | apply Kd.R_drewN | apply Kd.R_drew)); exact HO_4.out) (Kd.R_base ho25) hb); have n1_ := Aside0.mk (Kd.R_lower (Kd.R_new' ho25 (Kd.R_lt (by (with_reducible repeat (first | apply Kd.R_alloc | apply Kd.R_drewN | apply Kd.R_drew)); exact HO_4.out))) (below_size (by repeat (first | (with_reducible first | exact HB.out | apply below_alloc | apply pw_below_drewN | apply below_drew1 | refine below_set ?_ GE119.out) | exact HB.out)))); have n2_ := Aside0.mk (blk_below (g := gb119) (o := .cells #[.bool a0_0, .slice A0_1 l0_1.length c0_1, .slice A0_2 l0_2.length c0_2] 26 (0, 0)) (by (with_reducible repeat (first | refine blk_drewN ?_ _ | refine blk_drew ?_ | refine blk_alloc ?_ _)); exact BK119.out) hb); have n3_ := Aside0.mk (below_step (by repeat (first | (with_reducible first | exact HB.out | apply below_alloc | apply pw_below_drewN | apply below_drew1 | refine below_set ?_ GE119.out) | exact HB.out)) hb); clear HO_4; clear BK119; clear HB; have HO_4 := n0_; have HO138 := n1_; have BK119 := n2_; have HB := n3_; clear n0_ n1_ n2_ n3_; clear hb ho25; obtain ⟨Ao27, co27, eo27⟩ := Kd.R_slice HO138.out; subst eo27) | ((with_reducible refine gate_builtin (b := .append) (xs := #[.tmp 22, .tmp 27]) rfl ?_); at_builtin; refine Kd.R_append_rows (Kd.int .u8) (w0 := w) w.heap.size rfl (.tmp 22) (.tmp 27) 30 5 (.int .u8 0) 1 rfl Try.underlying30 info5 rfl (by decide) (by omega) u4 x4_3 y136 _ _ _ (fun k_ => some k_ ≠ (.slice Ao27 y136.length co27 : Value).ownBlock) (fun _ => False) rfl rfl ?aO ?aR (fun _ _ h => h) (fun _ h => h.elim) ?aF ?aB ?aS ?aL ?_; (case aR => repeat (first | exact (Kd.R_reads' HO138.out).2.2 | (with_reducible refine Kd.C_alloc ?_ _) | (with_reducible refine Kd.C_drewN ?_ _) | (with_reducible refine Kd.C_drew ?_))); (case aB => exact (by repeat (first | (with_reducible first | exact HB.out | apply below_alloc | apply pw_below_drewN | apply below_drew1 | refine below_set ?_ GE119.out) | exact HB.out))); (case aF => exact (fun k_ hk => Kd.fresh' (Kd.R_lt (by (with_reducible repeat (first | apply Kd.R_alloc | apply Kd.R_drewN | apply Kd.R_drew)); exact HO138.out)) k_ hk)); (case aO => exact (by (with_reducible repeat (first | apply Kd.R_alloc | apply Kd.R_drewN | apply Kd.R_drew)); exact Kd.R_mono HO_4.out (fun _ hk => hk.2))); (case aS => exact (below_size (by repeat (first | (with_reducible first | exact HB.out | apply below_alloc | apply pw_below_drewN | apply below_drew1 | refine below_set ?_ GE119.out) | exact HB.out)))); (case aL => have := LMc22.out; omega); intro v140 w26 ho hb hg hat; rw [← Ny139.out] at ho; have n0_ := Aside0.mk (blk_grown (g := gb119) (o := .cells #[.bool a0_0, .slice A0_1 l0_1.length c0_1, .slice A0_2 l0_2.length c0_2] 26 (0, 0)) (by (with_reducible repeat (first | refine blk_drewN ?_ _ | refine blk_drew ?_ | refine blk_alloc ?_ _)); exact BK119.out) hg (Kd.R_ne HO_4.out BK119.out (by decide))); have n1_ := Aside0.mk (Kd.R_after (ok := (fun _ => True)) (by (with_reducible repeat (first | apply Kd.R_alloc | apply Kd.R_drewN | apply Kd.R_drew)); exact HO138.out) hg hat); have n2_ := Aside0.mk (hb); have n3_ := Aside0.mk (ho); clear BK119; clear HO138; clear HB; clear HO_4; have BK119 := n0_; have HO138 := n1_; have HB := n2_; have HO141 := n3_; clear n0_ n1_ n2_ n3_; clear ho hb hg hat; have hcz28_0 : w26.cell? ⟨gb119, 0, none⟩ = some (.bool a0_0) := (blk_cell BK119.out 0).trans rfl; have hcz28_1 : w26.cell? ⟨gb119, 1, none⟩ = some (.slice A0_1 l0_1.length c0_1) := (blk_cell BK119.out 1).trans rfl; have hcz28_2 : w26.cell? ⟨gb119, 2, none⟩ = some (.slice A0_2 l0_2.length c0_2) := (blk_cell BK119.out 2).trans rfl; have hfz28_0 := blk_frozen BK119.out 0; have hfz28_1 := blk_frozen BK119.out 1; have hfz28_2 := blk_frozen BK119.out 2))
          go_loopg [4, 32] kj3 (fun kq v4 v32 w' => ∃ (x4_2 : List Int) (x32_2 : Int), v32 = .int .i64 x32_2 ∧ Aside0 (policy_Put.l0 kq x4_2 l0_1 (l0_1.length : Int) x32_2 a0_0 l0_1 l0_2 = some (r1, r2)) ∧ Aside0 (kq ≤ kj3) ∧ Aside0 (Kd.R (Kd.int .u8) 5 w' w.heap.size (fun _ => True) v4 x4_2) ∧ Aside0 (w'.heap[gb119]? = some (.cells #[.bool a0_0, (.slice A0_1 l0_1.length c0_1), (.slice A0_2 l0_2.length c0_2)] 26 (0, 0))) ∧ Aside0 (Below w.heap.size w w'))
          case atStart => exact ⟨(y139), (0), (by first | rfl | (simp; done) | (simp [*]; done)), H', ⟨Nat.le_refl _⟩, ⟨by (with_reducible repeat (first | apply Kd.R_alloc | apply Kd.R_drewN | apply Kd.R_drew)); exact Kd.R_mono HO141.out (fun _ hk => trivial)⟩, ⟨by (with_reducible repeat (first | refine blk_drewN ?_ _ | refine blk_drew ?_ | refine blk_alloc ?_ _)); exact BK119.out⟩, ⟨by repeat (first | (with_reducible first | exact HB.out | apply below_alloc | apply pw_below_drewN | apply below_drew1 | refine below_set ?_ GE119.out) | exact HB.out)⟩⟩
          case round =>
            clear H'
            try clear c1
            try clear c2
            try clear p2
            try clear c3
            try clear c11
            try clear c12
            try clear c17
            try clear c22
            try clear c24
            try clear hcz10_0
            try clear hcz10_1
            try clear hcz10_2
            try clear hcz23_0
            try clear hcz23_1
            try clear hcz23_2
            try clear hcz28_0
            try clear hcz28_1
            try clear hcz28_2
            try clear hcz6_0
            try clear hcz6_1
            try clear hcz6_2
            try clear hfz10_0
            try clear hfz10_1
            try clear hfz10_2
            try clear hfz23_0
            try clear hfz23_1
            try clear hfz23_2
            try clear hfz28_0
            try clear hfz28_1
            try clear hfz28_2
            try clear hfz6_0
            try clear hfz6_1
            try clear hfz6_2
            try clear p2
            obtain ⟨x4_2, x32_2, rfl, HA, HK2, HO_4, BK119, HB⟩ := hrel
            cases gk with
            | zero => exact absurd HA.out (by simp [policy_Put.l0])
            | succ k2 =>
              have H := HA.out
              clear HA
              simp only [policy_Put.l0] at H
              by_cases c29 : x32_2 < (l0_1.length : Int)
              · rw [if_pos c29] at H
                have c29b0 : decide (x32_2 < (l0_1.length : Int)) = true := decide_eq_true c29
                clear c29
                by_cases c30 : 0 ≤ x32_2
                · rw [if_pos c30] at H
                  have c30b0 : decide (0 ≤ x32_2) = true := decide_eq_true c30
                  clear c30
                  by_cases c31 : x32_2 < (l0_1.length : Int)
                  · rw [if_pos c31] at H
                    have c31b0 : decide (x32_2 < (l0_1.length : Int)) = true := decide_eq_true c31
                    clear c31
                    obtain ⟨y144, hy144⟩ : ∃ y_ : List Int, y_ = (([((rd_T35 l0_1 x32_2).f0) % 256] : List Int)) := ⟨_, rfl⟩
                    replace H : (if x4_2.length + y144.length < 140737488355328 then ((policy_four.f (x4_2 ++ y144) ((rd_T35 l0_1 x32_2).f1)).bind fun t150 => ((policy_four.f t150 ((rd_T35 l0_1 x32_2).f2)).bind fun t153 => ((some (([(rd_T35 l0_1 x32_2).f3] : List Int) : List Int)).bind fun y156 => (if t153.length + y156.length < 140737488355328 then (policy_Put.l0 k2 (t153 ++ y156) l0_1 (l0_1.length : Int) (wrap64 (x32_2 + 1)) a0_0 l0_1 l0_2) else (none))))) else (none)) = some (r1, r2) := by first | (rw [hy144]; with_reducible exact H) | (have H2_ := (Option.bind_some _ _).symm.trans H; rw [hy144]; with_reducible exact H2_) | (have H2_ := (Option.bind_some _ _).symm.trans H; with_reducible exact H2_) | with_reducible exact H | (rw [hy144]; exact H) | exact H
                    have Ny144 := Aside0.mk hy144
                    clear hy144
                    by_cases c32 : x4_2.length + y144.length < 140737488355328
                    · rw [if_pos c32] at H
                      have LMc32 := Aside0.mk c32
                      clear c32
                      obtain ⟨y147, hy147⟩ : ∃ y_ : List Int, y_ = (x4_2 ++ y144) := ⟨_, rfl⟩
                      replace H : ((policy_four.f y147 ((rd_T35 l0_1 x32_2).f1)).bind fun t150 => ((policy_four.f t150 ((rd_T35 l0_1 x32_2).f2)).bind fun t153 => ((some (([(rd_T35 l0_1 x32_2).f3] : List Int) : List Int)).bind fun y156 => (if t153.length + y156.length < 140737488355328 then (policy_Put.l0 k2 (t153 ++ y156) l0_1 (l0_1.length : Int) (wrap64 (x32_2 + 1)) a0_0 l0_1 l0_2) else (none))))) = some (r1, r2) := by first | (rw [hy147]; with_reducible exact H) | (have H2_ := (Option.bind_some _ _).symm.trans H; rw [hy147]; with_reducible exact H2_) | (have H2_ := (Option.bind_some _ _).symm.trans H; with_reducible exact H2_) | with_reducible exact H | (rw [hy147]; exact H) | exact H
                      have Ny147 := Aside0.mk hy147
                      clear hy147
                      replace H := Option.bind_eq_some_iff.mp H
                      obtain ⟨t150, A330, H⟩ := H
                      replace H : ((policy_four.f t150 ((rd_T35 l0_1 x32_2).f2)).bind fun t153 => ((some (([(rd_T35 l0_1 x32_2).f3] : List Int) : List Int)).bind fun y156 => (if t153.length + y156.length < 140737488355328 then (policy_Put.l0 k2 (t153 ++ y156) l0_1 (l0_1.length : Int) (wrap64 (x32_2 + 1)) a0_0 l0_1 l0_2) else (none)))) = some (r1, r2) := H
                      have A33 := Aside0.mk A330
                      clear A330
                      replace H := Option.bind_eq_some_iff.mp H
                      obtain ⟨t153, A340, H⟩ := H
                      replace H : ((some (([(rd_T35 l0_1 x32_2).f3] : List Int) : List Int)).bind fun y156 => (if t153.length + y156.length < 140737488355328 then (policy_Put.l0 k2 (t153 ++ y156) l0_1 (l0_1.length : Int) (wrap64 (x32_2 + 1)) a0_0 l0_1 l0_2) else (none))) = some (r1, r2) := H
                      have A34 := Aside0.mk A340
                      clear A340
                      obtain ⟨y156, hy156⟩ : ∃ y_ : List Int, y_ = (([(rd_T35 l0_1 x32_2).f3] : List Int)) := ⟨_, rfl⟩
                      replace H : (if t153.length + y156.length < 140737488355328 then (policy_Put.l0 k2 (t153 ++ y156) l0_1 (l0_1.length : Int) (wrap64 (x32_2 + 1)) a0_0 l0_1 l0_2) else (none)) = some (r1, r2) := by first | (rw [hy156]; with_reducible exact H) | (have H2_ := (Option.bind_some _ _).symm.trans H; rw [hy156]; with_reducible exact H2_) | (have H2_ := (Option.bind_some _ _).symm.trans H; with_reducible exact H2_) | with_reducible exact H | (rw [hy156]; exact H) | exact H
                      have Ny156 := Aside0.mk hy156
                      clear hy156
                      by_cases c35 : t153.length + y156.length < 140737488355328
                      · rw [if_pos c35] at H
                        have LMc35 := Aside0.mk c35
                        clear c35
                        obtain ⟨y159, hy159⟩ : ∃ y_ : List Int, y_ = (t153 ++ y156) := ⟨_, rfl⟩
                        replace H : (policy_Put.l0 k2 y159 l0_1 (l0_1.length : Int) (wrap64 (x32_2 + 1)) a0_0 l0_1 l0_2) = some (r1, r2) := by first | (rw [hy159]; with_reducible exact H) | (have H2_ := (Option.bind_some _ _).symm.trans H; rw [hy159]; with_reducible exact H2_) | (have H2_ := (Option.bind_some _ _).symm.trans H; with_reducible exact H2_) | with_reducible exact H | (rw [hy159]; exact H) | exact H
                        have Ny159 := Aside0.mk hy159
                        clear hy159
                        have H' := Aside0.mk H
                        clear H
                        have p142 : 0 ≤ (x32_2 : Int) := of_decide_eq_true (by first | (with_reducible assumption) | assumption)
                        have q142 : x32_2 < (l0_1.length : Int) := of_decide_eq_true (by first | (with_reducible assumption) | assumption)
                        obtain ⟨ad142, e142, hx142_0, hx142_1, hx142_2, hx142_3⟩ := at_T35 HR0_1.out x32_2 p142 q142
                        cases e142
                        replace hx142_0 := (HB.out.cell (World.block_lt_of_cell? w _ hx142_0)).trans hx142_0
                        replace hx142_1 := (HB.out.cell (World.block_lt_of_cell? w _ hx142_1)).trans hx142_1
                        replace hx142_2 := (HB.out.cell (World.block_lt_of_cell? w _ hx142_2)).trans hx142_2
                        replace hx142_3 := (HB.out.cell (World.block_lt_of_cell? w _ hx142_3)).trans hx142_3
                        replace p142 := eq_true p142
                        replace q142 := eq_true q142
                        try go_wp2_with (first | ((with_reducible refine gate_dst (N := 6) rfl ?_); refine box_event ?hg (N := 6) ?hd (cs := #[.int .i64 0, .int .u32 0, .int .u32 0, .int .u8 0]) (t := 35) ?hr ?_; (case hd => rfl); (case hg => rfl); (case hr => first | (go_simp; done) | (go_simp; rfl)); intro gb143 hg w36 hbox hb; have n0_ := Aside0.mk (Kd.R_below (by (with_reducible repeat (first | apply Kd.R_alloc | apply Kd.R_drewN | apply Kd.R_drew)); exact HO_4.out) hb); have n1_ := Aside0.mk (blk_below (g := gb119) (o := .cells #[.bool a0_0, .slice (some ad142) l0_1.length c0_1, .slice A0_2 l0_2.length c0_2] 26 (0, 0)) (by (with_reducible repeat (first | refine blk_drewN ?_ _ | refine blk_drew ?_ | refine blk_alloc ?_ _)); exact BK119.out) hb); have n2_ := Aside0.mk (below_step (by repeat (first | (with_reducible first | exact HB.out | apply below_alloc | apply pw_below_drewN | apply below_drew1 | refine below_set ?_ GE119.out) | exact HB.out)) hb); have n3_ := Aside0.mk (hbox); have n4_ := Aside0.mk ((by rw [hg]; exact (below_size (by repeat (first | (with_reducible first | exact HB.out | apply below_alloc | apply pw_below_drewN | apply below_drew1 | refine below_set ?_ GE119.out) | exact HB.out))) : w.heap.size ≤ gb143)); have n5_ := Aside0.mk ((by rw [hg]; exact (below_size (by repeat (first | (with_reducible first | exact HB.out | apply below_alloc | apply pw_below_drewN | apply below_drew1 | refine below_set ?_ GE119.out) | exact HB.out))) : w.heap.size ≤ gb143)); have n6_ := Aside0.mk ((by rw [hg]; exact Nat.ne_of_lt (blk_lt (g := gb119) (o := .cells #[.bool a0_0, .slice (some ad142) l0_1.length c0_1, .slice A0_2 l0_2.length c0_2] 26 (0, 0)) (by (with_reducible repeat (first | refine blk_drewN ?_ _ | refine blk_drew ?_ | refine blk_alloc ?_ _)); exact BK119.out)) : gb119 ≠ gb143)); have n7_ := Aside0.mk ((by rw [hg]; exact Nat.ne_of_gt (blk_lt (g := gb119) (o := .cells #[.bool a0_0, .slice (some ad142) l0_1.length c0_1, .slice A0_2 l0_2.length c0_2] 26 (0, 0)) (by (with_reducible repeat (first | refine blk_drewN ?_ _ | refine blk_drew ?_ | refine blk_alloc ?_ _)); exact BK119.out)) : gb143 ≠ gb119)); clear HO_4; clear BK119; clear HB; have HO_4 := n0_; have BK119 := n1_; have HB := n2_; have BK143 := n3_; have GW143 := n4_; have GE143 := n5_; have NB119_143 := n6_; have NB143_119 := n7_; clear n0_ n1_ n2_ n3_ n4_ n5_ n6_ n7_; clear hb hbox hg; have hnb37 := NB143_119.out; have hnc37 := NB119_143.out; have hcz38_0 : w36.cell? ⟨gb143, 0, none⟩ = some (.int .i64 0) := (blk_cell BK143.out 0).trans rfl; have hcz38_1 : w36.cell? ⟨gb143, 1, none⟩ = some (.int .u32 0) := (blk_cell BK143.out 1).trans rfl; have hcz38_2 : w36.cell? ⟨gb143, 2, none⟩ = some (.int .u32 0) := (blk_cell BK143.out 2).trans rfl; have hcz38_3 : w36.cell? ⟨gb143, 3, none⟩ = some (.int .u8 0) := (blk_cell BK143.out 3).trans rfl; have hfz38_0 := blk_frozen BK143.out 0; have hfz38_1 := blk_frozen BK143.out 1; have hfz38_2 := blk_frozen BK143.out 2; have hfz38_3 := blk_frozen BK143.out 3; obtain ⟨Ao39, co39, eo39⟩ := Kd.R_slice HO_4.out; subst eo39))
                        have n0_ : Aside0 (Kd.R (Kd.int .u8) 5 ((((w36.setCell ⟨gb143, 0, none⟩ (.int .i64 ((rd_T35 l0_1 x32_2).f0))).setCell ⟨gb143, 1, none⟩ (.int .u32 ((rd_T35 l0_1 x32_2).f1))).setCell ⟨gb143, 2, none⟩ (.int .u32 ((rd_T35 l0_1 x32_2).f2))).setCell ⟨gb143, 3, none⟩ (.int .u8 ((rd_T35 l0_1 x32_2).f3))) w.heap.size (fun _ => True) (.slice Ao39 x4_2.length co39) x4_2) := ⟨by (with_reducible repeat (first | apply Kd.R_alloc | apply Kd.R_drewN | apply Kd.R_drew)); exact Kd.R_mono (Kd.R_far (p := ⟨gb143, 3, none⟩) (Kd.R_far (p := ⟨gb143, 2, none⟩) (Kd.R_far (p := ⟨gb143, 1, none⟩) (Kd.R_far (p := ⟨gb143, 0, none⟩) (Kd.R_types HO_4.out BK143.out (by decide)) (fun _ hk => hk.2) (.int .i64 ((rd_T35 l0_1 x32_2).f0))) (fun _ hk => hk.2) (.int .u32 ((rd_T35 l0_1 x32_2).f1))) (fun _ hk => hk.2) (.int .u32 ((rd_T35 l0_1 x32_2).f2))) (fun _ hk => hk.2) (.int .u8 ((rd_T35 l0_1 x32_2).f3))) (fun _ hk => trivial)⟩
                        have n1_ : Aside0 (((((w36.setCell ⟨gb143, 0, none⟩ (.int .i64 ((rd_T35 l0_1 x32_2).f0))).setCell ⟨gb143, 1, none⟩ (.int .u32 ((rd_T35 l0_1 x32_2).f1))).setCell ⟨gb143, 2, none⟩ (.int .u32 ((rd_T35 l0_1 x32_2).f2))).setCell ⟨gb143, 3, none⟩ (.int .u8 ((rd_T35 l0_1 x32_2).f3))).heap[gb119]? = some (.cells #[.bool a0_0, .slice (some ad142) l0_1.length c0_1, .slice A0_2 l0_2.length c0_2] 26 (0, 0))) := ⟨by (with_reducible repeat (first | refine blk_drewN ?_ _ | refine blk_drew ?_ | refine blk_alloc ?_ _)); refine blk_far ?_ NB119_143.out _; (with_reducible repeat (first | refine blk_drewN ?_ _ | refine blk_drew ?_ | refine blk_alloc ?_ _)); refine blk_far ?_ NB119_143.out _; (with_reducible repeat (first | refine blk_drewN ?_ _ | refine blk_drew ?_ | refine blk_alloc ?_ _)); refine blk_far ?_ NB119_143.out _; (with_reducible repeat (first | refine blk_drewN ?_ _ | refine blk_drew ?_ | refine blk_alloc ?_ _)); refine blk_far ?_ NB119_143.out _; (with_reducible repeat (first | refine blk_drewN ?_ _ | refine blk_drew ?_ | refine blk_alloc ?_ _)); exact BK119.out⟩
                        have n2_ : Aside0 (((((w36.setCell ⟨gb143, 0, none⟩ (.int .i64 ((rd_T35 l0_1 x32_2).f0))).setCell ⟨gb143, 1, none⟩ (.int .u32 ((rd_T35 l0_1 x32_2).f1))).setCell ⟨gb143, 2, none⟩ (.int .u32 ((rd_T35 l0_1 x32_2).f2))).setCell ⟨gb143, 3, none⟩ (.int .u8 ((rd_T35 l0_1 x32_2).f3))).heap[gb143]? = some (.cells #[.int .i64 ((rd_T35 l0_1 x32_2).f0), .int .u32 ((rd_T35 l0_1 x32_2).f1), .int .u32 ((rd_T35 l0_1 x32_2).f2), .int .u8 ((rd_T35 l0_1 x32_2).f3)] 35 (0, 0))) := ⟨by (with_reducible repeat (first | refine blk_drewN ?_ _ | refine blk_drew ?_ | refine blk_alloc ?_ _)); refine blk_put (cs := #[.int .i64 ((rd_T35 l0_1 x32_2).f0), .int .u32 ((rd_T35 l0_1 x32_2).f1), .int .u32 ((rd_T35 l0_1 x32_2).f2), .int .u8 0]) ?_ 3 _ rfl; (with_reducible repeat (first | refine blk_drewN ?_ _ | refine blk_drew ?_ | refine blk_alloc ?_ _)); refine blk_put (cs := #[.int .i64 ((rd_T35 l0_1 x32_2).f0), .int .u32 ((rd_T35 l0_1 x32_2).f1), .int .u32 0, .int .u8 0]) ?_ 2 _ rfl; (with_reducible repeat (first | refine blk_drewN ?_ _ | refine blk_drew ?_ | refine blk_alloc ?_ _)); refine blk_put (cs := #[.int .i64 ((rd_T35 l0_1 x32_2).f0), .int .u32 0, .int .u32 0, .int .u8 0]) ?_ 1 _ rfl; (with_reducible repeat (first | refine blk_drewN ?_ _ | refine blk_drew ?_ | refine blk_alloc ?_ _)); refine blk_put (cs := #[.int .i64 0, .int .u32 0, .int .u32 0, .int .u8 0]) ?_ 0 _ rfl; (with_reducible repeat (first | refine blk_drewN ?_ _ | refine blk_drew ?_ | refine blk_alloc ?_ _)); exact BK143.out⟩
                        have n3_ : Aside0 (Below w.heap.size w ((((w36.setCell ⟨gb143, 0, none⟩ (.int .i64 ((rd_T35 l0_1 x32_2).f0))).setCell ⟨gb143, 1, none⟩ (.int .u32 ((rd_T35 l0_1 x32_2).f1))).setCell ⟨gb143, 2, none⟩ (.int .u32 ((rd_T35 l0_1 x32_2).f2))).setCell ⟨gb143, 3, none⟩ (.int .u8 ((rd_T35 l0_1 x32_2).f3)))) := ⟨by repeat (first | (with_reducible first | exact HB.out | apply below_alloc | apply pw_below_drewN | apply below_drew1 | refine below_set ?_ GE119.out | refine below_set ?_ GE143.out) | exact HB.out)⟩
                        (try clear HO_4)
                        (try clear BK119)
                        (try clear BK143)
                        (try clear HB)
                        generalize ((((w36.setCell ⟨gb143, 0, none⟩ (.int .i64 ((rd_T35 l0_1 x32_2).f0))).setCell ⟨gb143, 1, none⟩ (.int .u32 ((rd_T35 l0_1 x32_2).f1))).setCell ⟨gb143, 2, none⟩ (.int .u32 ((rd_T35 l0_1 x32_2).f2))).setCell ⟨gb143, 3, none⟩ (.int .u8 ((rd_T35 l0_1 x32_2).f3))) = w40 at n0_ n1_ n2_ n3_ ⊢
                        have HO_4 := n0_
                        have BK119 := n1_
                        have BK143 := n2_
                        have HB := n3_
                        clear n0_ n1_ n2_ n3_
                        have n0_ := Aside0.mk (Kd.R_drew HO_4.out)
                        have n1_ := Aside0.mk (blk_drew BK119.out)
                        have n2_ := Aside0.mk (blk_drew BK143.out)
                        have n3_ := Aside0.mk (below_drew1 HB.out)
                        clear HO_4
                        clear BK119
                        clear BK143
                        clear HB
                        have HO_4 := n0_
                        have BK119 := n1_
                        have BK143 := n2_
                        have HB := n3_
                        clear n0_ n1_ n2_ n3_
                        refine start_ (n := 17) (S := fun w' => w'.cell? ⟨gb143, 0, none⟩ = some (.int .i64 ((rd_T35 l0_1 x32_2).f0)) ∧ w'.cell? ⟨gb143, 1, none⟩ = some (.int .u32 ((rd_T35 l0_1 x32_2).f1)) ∧ w'.cell? ⟨gb143, 2, none⟩ = some (.int .u32 ((rd_T35 l0_1 x32_2).f2)) ∧ w'.cell? ⟨gb143, 3, none⟩ = some (.int .u8 ((rd_T35 l0_1 x32_2).f3))) (ds := []) #[false, false, false, false, false, false, false, false, false, false, false, false, false, false, false, false, false] (by kernel_rfl) rfl rfl ⟨(blk_cell BK143.out 0).trans rfl, (blk_cell BK143.out 1).trans rfl, (blk_cell BK143.out 2).trans rfl, (blk_cell BK143.out 3).trans rfl⟩ (fun hHeld => ?_); refine with_tabW policy_Put.tab11 policy_Put.bits11 (fun HT_ HW_ => ?_)
                        generalize w40.drew = w41 at HO_4 BK119 BK143 HB hHeld ⊢
                        refine pure_ (i := 0) (N := some 36) (v := ?_) (a' := ?_) #[true, false, false, false, false, false, false, false, false, false, false, false, false, false, false, false, false] rfl rfl (any_of HT_.out (by kernel_rfl)) (fun _ _ _ h => h) (Or.inl ⟨by rfl, ?_⟩) ?_ ?_
                        rotate_left
                        · intro w'
                          go_simp
                          with_reducible rfl
                        rotate_left
                        · simp only [Act.put, List.setIfInBounds_toArray, List.set_cons_zero, List.set_cons_succ, i64_w, i32_w]
                          rfl
                        refine pure_ (i := 1) (N := some 37) (v := ?_) (a' := ?_) #[true, true, false, false, false, false, false, false, false, false, false, false, false, false, false, false, false] rfl rfl (any_of HT_.out (by kernel_rfl)) (fun _ _ _ h => h) (Or.inl ⟨by rfl, ?_⟩) ?_ ?_
                        rotate_left
                        · intro w'
                          go_simp
                          with_reducible rfl
                        rotate_left
                        · simp only [Act.put, List.setIfInBounds_toArray, List.set_cons_zero, List.set_cons_succ, i64_w, i32_w]
                          rfl
                        refine pure_ (i := 6) (N := some 42) (v := ?_) (a' := ?_) #[true, true, false, false, false, false, true, false, false, false, false, false, false, false, false, false, false] rfl rfl (any_of HT_.out (by kernel_rfl)) (fun _ _ _ h => h) (Or.inl ⟨by rfl, ?_⟩) ?_ ?_
                        rotate_left
                        · intro w'
                          go_simp
                          with_reducible rfl
                        rotate_left
                        · simp only [Act.put, List.setIfInBounds_toArray, List.set_cons_zero, List.set_cons_succ, i64_w, i32_w]
                          rfl
                        refine pure_ (i := 9) (N := some 45) (v := ?_) (a' := ?_) #[true, true, false, false, false, false, true, false, false, true, false, false, false, false, false, false, false] rfl rfl (any_of HT_.out (by kernel_rfl)) (fun _ _ _ h => h) (Or.inl ⟨by rfl, ?_⟩) ?_ ?_
                        rotate_left
                        · intro w'
                          go_simp
                          with_reducible rfl
                        rotate_left
                        · simp only [Act.put, List.setIfInBounds_toArray, List.set_cons_zero, List.set_cons_succ, i64_w, i32_w]
                          rfl
                        refine pure_ (i := 12) (N := some 48) (v := ?_) (a' := ?_) #[true, true, false, false, false, false, true, false, false, true, false, false, true, false, false, false, false] rfl rfl (any_of HT_.out (by kernel_rfl)) (fun _ _ _ h => h) (Or.inl ⟨by rfl, ?_⟩) ?_ ?_
                        rotate_left
                        · intro w'
                          go_simp
                          with_reducible rfl
                        rotate_left
                        · simp only [Act.put, List.setIfInBounds_toArray, List.set_cons_zero, List.set_cons_succ, i64_w, i32_w]
                          rfl
                        refine take_ (i := 2) (N := some 38) (v := ?_) (a' := ?_) #[true, true, true, false, false, false, true, false, false, true, false, false, true, false, false, false, false] rfl rfl (take_ofW HT_.out HW_.out (by kernel_rfl)) (fun _ _ _ h => h) (Or.inl ⟨by rfl, ?_⟩) hHeld ?_ ?_
                        rotate_left
                        · rintro w' ⟨s0, s1, s2, s3⟩
                          go_simp
                          with_reducible rfl
                        rotate_left
                        · simp only [Act.put, List.setIfInBounds_toArray, List.set_cons_zero, List.set_cons_succ, i64_w, i32_w]
                          rfl
                        refine pure_ (i := 3) (N := some 39) (v := ?_) (a' := ?_) #[true, true, true, true, false, false, true, false, false, true, false, false, true, false, false, false, false] rfl rfl (any_of HT_.out (by kernel_rfl)) (fun _ _ _ h => h) (Or.inl ⟨by rfl, ?_⟩) ?_ ?_
                        rotate_left
                        · intro w'
                          go_simp
                          with_reducible rfl
                        rotate_left
                        · simp only [Act.put, List.setIfInBounds_toArray, List.set_cons_zero, List.set_cons_succ, i64_w, i32_w]
                          rfl
                        refine take_ (i := 7) (N := some 43) (v := ?_) (a' := ?_) #[true, true, true, true, false, false, true, true, false, true, false, false, true, false, false, false, false] rfl rfl (take_ofW HT_.out HW_.out (by kernel_rfl)) (fun _ _ _ h => h) (Or.inl ⟨by rfl, ?_⟩) hHeld ?_ ?_
                        rotate_left
                        · rintro w' ⟨s0, s1, s2, s3⟩
                          go_simp
                          with_reducible rfl
                        rotate_left
                        · simp only [Act.put, List.setIfInBounds_toArray, List.set_cons_zero, List.set_cons_succ, i64_w, i32_w]
                          rfl
                        refine take_ (i := 10) (N := some 46) (v := ?_) (a' := ?_) #[true, true, true, true, false, false, true, true, false, true, true, false, true, false, false, false, false] rfl rfl (take_ofW HT_.out HW_.out (by kernel_rfl)) (fun _ _ _ h => h) (Or.inl ⟨by rfl, ?_⟩) hHeld ?_ ?_
                        rotate_left
                        · rintro w' ⟨s0, s1, s2, s3⟩
                          go_simp
                          with_reducible rfl
                        rotate_left
                        · simp only [Act.put, List.setIfInBounds_toArray, List.set_cons_zero, List.set_cons_succ, i64_w, i32_w]
                          rfl
                        refine take_ (i := 13) (N := some 49) (v := ?_) (a' := ?_) #[true, true, true, true, false, false, true, true, false, true, true, false, true, true, false, false, false] rfl rfl (take_ofW HT_.out HW_.out (by kernel_rfl)) (fun _ _ _ h => h) (Or.inl ⟨by rfl, ?_⟩) hHeld ?_ ?_
                        rotate_left
                        · rintro w' ⟨s0, s1, s2, s3⟩
                          go_simp
                          with_reducible rfl
                        rotate_left
                        · simp only [Act.put, List.setIfInBounds_toArray, List.set_cons_zero, List.set_cons_succ, i64_w, i32_w]
                          rfl
                        refine join_ (σ := Value × Value × Value × Value × Value) 2 #[true, true, true, true, true, true, true, true, true, true, true, true, true, true, true, false, false] (fun s_ => [(40, s_.1), (41, s_.2.1), (44, s_.2.2.1), (47, s_.2.2.2.1), (50, s_.2.2.2.2)]) (fun s_ w' => (w'.cell? ⟨gb143, 0, none⟩ = some (.int .i64 ((rd_T35 l0_1 x32_2).f0)) ∧ w'.cell? ⟨gb143, 1, none⟩ = some (.int .u32 ((rd_T35 l0_1 x32_2).f1)) ∧ w'.cell? ⟨gb143, 2, none⟩ = some (.int .u32 ((rd_T35 l0_1 x32_2).f2)) ∧ w'.cell? ⟨gb143, 3, none⟩ = some (.int .u8 ((rd_T35 l0_1 x32_2).f3))) ∧ (Kd.R (Kd.int .u8) 5 w' w.heap.size (fun k_ => some k_ ≠ (s_.2.2.2.1 : Value).ownBlock ∧ some k_ ≠ (s_.2.2.2.2 : Value).ownBlock) s_.1 y144) ∧ (Kd.R (Kd.int .u8) 5 w' w.heap.size (fun k_ => some k_ ≠ (s_.1 : Value).ownBlock ∧ some k_ ≠ (s_.2.2.2.2 : Value).ownBlock) s_.2.2.2.1 t153) ∧ (Kd.R (Kd.int .u8) 5 w' w.heap.size (fun k_ => some k_ ≠ (s_.1 : Value).ownBlock ∧ some k_ ≠ (s_.2.2.2.1 : Value).ownBlock) s_.2.2.2.2 y156) ∧ (w'.heap[gb119]? = some (.cells #[.bool a0_0, .slice (some ad142) l0_1.length c0_1, .slice A0_2 l0_2.length c0_2] 26 (0, 0))) ∧ (w'.heap[gb143]? = some (.cells #[.int .i64 ((rd_T35 l0_1 x32_2).f0), .int .u32 ((rd_T35 l0_1 x32_2).f1), .int .u32 ((rd_T35 l0_1 x32_2).f2), .int .u8 ((rd_T35 l0_1 x32_2).f3)] 35 (0, 0))) ∧ (Below w.heap.size w w')) ?_ ?_
                        rotate_left
                        · intro hJ4_5_8_11_14
                          refine join_ (σ := Value × Value × Value × Value) 3 #[true, true, true, true, true, true, true, true, true, true, true, true, true, true, false, false, false] (fun s_ => [(40, s_.1), (41, s_.2.1), (44, s_.2.2.1), (47, s_.2.2.2)]) (fun s_ w' => (w'.cell? ⟨gb143, 0, none⟩ = some (.int .i64 ((rd_T35 l0_1 x32_2).f0)) ∧ w'.cell? ⟨gb143, 1, none⟩ = some (.int .u32 ((rd_T35 l0_1 x32_2).f1)) ∧ w'.cell? ⟨gb143, 2, none⟩ = some (.int .u32 ((rd_T35 l0_1 x32_2).f2)) ∧ w'.cell? ⟨gb143, 3, none⟩ = some (.int .u8 ((rd_T35 l0_1 x32_2).f3))) ∧ (Kd.R (Kd.int .u8) 5 w' w.heap.size (fun k_ => some k_ ≠ (s_.2.2.2 : Value).ownBlock) s_.1 y144) ∧ (Kd.R (Kd.int .u8) 5 w' w.heap.size (fun k_ => some k_ ≠ (s_.1 : Value).ownBlock) s_.2.2.2 t153) ∧ (w'.heap[gb119]? = some (.cells #[.bool a0_0, .slice (some ad142) l0_1.length c0_1, .slice A0_2 l0_2.length c0_2] 26 (0, 0))) ∧ (w'.heap[gb143]? = some (.cells #[.int .i64 ((rd_T35 l0_1 x32_2).f0), .int .u32 ((rd_T35 l0_1 x32_2).f1), .int .u32 ((rd_T35 l0_1 x32_2).f2), .int .u8 ((rd_T35 l0_1 x32_2).f3)] 35 (0, 0))) ∧ (Below w.heap.size w w')) ?_ ?_
                          rotate_left
                          · intro hJ4_5_8_11
                            refine join_ (σ := Value × Value × Value × Value) 3 #[true, true, true, true, true, true, true, true, true, true, true, false, true, true, true, false, false] (fun s_ => [(40, s_.1), (41, s_.2.1), (44, s_.2.2.1), (50, s_.2.2.2)]) (fun s_ w' => (w'.cell? ⟨gb143, 0, none⟩ = some (.int .i64 ((rd_T35 l0_1 x32_2).f0)) ∧ w'.cell? ⟨gb143, 1, none⟩ = some (.int .u32 ((rd_T35 l0_1 x32_2).f1)) ∧ w'.cell? ⟨gb143, 2, none⟩ = some (.int .u32 ((rd_T35 l0_1 x32_2).f2)) ∧ w'.cell? ⟨gb143, 3, none⟩ = some (.int .u8 ((rd_T35 l0_1 x32_2).f3))) ∧ (Kd.R (Kd.int .u8) 5 w' w.heap.size (fun k_ => some k_ ≠ (s_.2.2.1 : Value).ownBlock ∧ some k_ ≠ (s_.2.2.2 : Value).ownBlock) s_.1 y144) ∧ (Kd.R (Kd.int .u8) 5 w' w.heap.size (fun k_ => some k_ ≠ (s_.1 : Value).ownBlock ∧ some k_ ≠ (s_.2.2.2 : Value).ownBlock) s_.2.2.1 t150) ∧ (Kd.R (Kd.int .u8) 5 w' w.heap.size (fun k_ => some k_ ≠ (s_.1 : Value).ownBlock ∧ some k_ ≠ (s_.2.2.1 : Value).ownBlock) s_.2.2.2 y156) ∧ (w'.heap[gb119]? = some (.cells #[.bool a0_0, .slice (some ad142) l0_1.length c0_1, .slice A0_2 l0_2.length c0_2] 26 (0, 0))) ∧ (w'.heap[gb143]? = some (.cells #[.int .i64 ((rd_T35 l0_1 x32_2).f0), .int .u32 ((rd_T35 l0_1 x32_2).f1), .int .u32 ((rd_T35 l0_1 x32_2).f2), .int .u8 ((rd_T35 l0_1 x32_2).f3)] 35 (0, 0))) ∧ (Below w.heap.size w w')) ?_ ?_
                            rotate_left
                            · intro hJ4_5_8_14
                              refine join_ (σ := Value × Value × Value) 4 #[true, true, true, true, true, true, true, true, true, true, true, false, true, true, false, false, false] (fun s_ => [(40, s_.1), (41, s_.2.1), (44, s_.2.2)]) (fun s_ w' => (w'.cell? ⟨gb143, 0, none⟩ = some (.int .i64 ((rd_T35 l0_1 x32_2).f0)) ∧ w'.cell? ⟨gb143, 1, none⟩ = some (.int .u32 ((rd_T35 l0_1 x32_2).f1)) ∧ w'.cell? ⟨gb143, 2, none⟩ = some (.int .u32 ((rd_T35 l0_1 x32_2).f2)) ∧ w'.cell? ⟨gb143, 3, none⟩ = some (.int .u8 ((rd_T35 l0_1 x32_2).f3))) ∧ (Kd.R (Kd.int .u8) 5 w' w.heap.size (fun k_ => some k_ ≠ (s_.2.2 : Value).ownBlock) s_.1 y144) ∧ (Kd.R (Kd.int .u8) 5 w' w.heap.size (fun k_ => some k_ ≠ (s_.1 : Value).ownBlock) s_.2.2 t150) ∧ (w'.heap[gb119]? = some (.cells #[.bool a0_0, .slice (some ad142) l0_1.length c0_1, .slice A0_2 l0_2.length c0_2] 26 (0, 0))) ∧ (w'.heap[gb143]? = some (.cells #[.int .i64 ((rd_T35 l0_1 x32_2).f0), .int .u32 ((rd_T35 l0_1 x32_2).f1), .int .u32 ((rd_T35 l0_1 x32_2).f2), .int .u8 ((rd_T35 l0_1 x32_2).f3)] 35 (0, 0))) ∧ (Below w.heap.size w w')) ?_ ?_
                              rotate_left
                              · intro hJ4_5_8
                                refine join_ (σ := Value × Value × Value) 4 #[true, true, true, true, true, true, true, true, false, true, true, false, true, true, true, false, false] (fun s_ => [(40, s_.1), (41, s_.2.1), (50, s_.2.2)]) (fun s_ w' => (w'.cell? ⟨gb143, 0, none⟩ = some (.int .i64 ((rd_T35 l0_1 x32_2).f0)) ∧ w'.cell? ⟨gb143, 1, none⟩ = some (.int .u32 ((rd_T35 l0_1 x32_2).f1)) ∧ w'.cell? ⟨gb143, 2, none⟩ = some (.int .u32 ((rd_T35 l0_1 x32_2).f2)) ∧ w'.cell? ⟨gb143, 3, none⟩ = some (.int .u8 ((rd_T35 l0_1 x32_2).f3))) ∧ (Kd.R (Kd.int .u8) 5 w' w.heap.size (fun k_ => some k_ ≠ (s_.2.1 : Value).ownBlock ∧ some k_ ≠ (s_.2.2 : Value).ownBlock) s_.1 y144) ∧ (Kd.R (Kd.int .u8) 5 w' w.heap.size (fun k_ => some k_ ≠ (s_.1 : Value).ownBlock ∧ some k_ ≠ (s_.2.2 : Value).ownBlock) s_.2.1 y147) ∧ (Kd.R (Kd.int .u8) 5 w' w.heap.size (fun k_ => some k_ ≠ (s_.1 : Value).ownBlock ∧ some k_ ≠ (s_.2.1 : Value).ownBlock) s_.2.2 y156) ∧ (w'.heap[gb119]? = some (.cells #[.bool a0_0, .slice (some ad142) l0_1.length c0_1, .slice A0_2 l0_2.length c0_2] 26 (0, 0))) ∧ (w'.heap[gb143]? = some (.cells #[.int .i64 ((rd_T35 l0_1 x32_2).f0), .int .u32 ((rd_T35 l0_1 x32_2).f1), .int .u32 ((rd_T35 l0_1 x32_2).f2), .int .u8 ((rd_T35 l0_1 x32_2).f3)] 35 (0, 0))) ∧ (Below w.heap.size w w')) ?_ ?_
                                rotate_left
                                · intro hJ4_5_14
                                  refine join_ (σ := Value × Value) 5 #[true, true, true, true, true, true, true, true, false, true, true, false, true, true, false, false, false] (fun s_ => [(40, s_.1), (41, s_.2)]) (fun s_ w' => (w'.cell? ⟨gb143, 0, none⟩ = some (.int .i64 ((rd_T35 l0_1 x32_2).f0)) ∧ w'.cell? ⟨gb143, 1, none⟩ = some (.int .u32 ((rd_T35 l0_1 x32_2).f1)) ∧ w'.cell? ⟨gb143, 2, none⟩ = some (.int .u32 ((rd_T35 l0_1 x32_2).f2)) ∧ w'.cell? ⟨gb143, 3, none⟩ = some (.int .u8 ((rd_T35 l0_1 x32_2).f3))) ∧ (Kd.R (Kd.int .u8) 5 w' w.heap.size (fun k_ => some k_ ≠ (s_.2 : Value).ownBlock) s_.1 y144) ∧ (Kd.R (Kd.int .u8) 5 w' w.heap.size (fun k_ => some k_ ≠ (s_.1 : Value).ownBlock) s_.2 y147) ∧ (w'.heap[gb119]? = some (.cells #[.bool a0_0, .slice (some ad142) l0_1.length c0_1, .slice A0_2 l0_2.length c0_2] 26 (0, 0))) ∧ (w'.heap[gb143]? = some (.cells #[.int .i64 ((rd_T35 l0_1 x32_2).f0), .int .u32 ((rd_T35 l0_1 x32_2).f1), .int .u32 ((rd_T35 l0_1 x32_2).f2), .int .u8 ((rd_T35 l0_1 x32_2).f3)] 35 (0, 0))) ∧ (Below w.heap.size w w')) ?_ ?_
                                  rotate_left
                                  · intro hJ4_5
                                    refine join_ (σ := Value × Value) 5 #[true, true, true, true, true, false, true, true, false, true, true, false, true, true, true, false, false] (fun s_ => [(40, s_.1), (50, s_.2)]) (fun s_ w' => (w'.cell? ⟨gb143, 0, none⟩ = some (.int .i64 ((rd_T35 l0_1 x32_2).f0)) ∧ w'.cell? ⟨gb143, 1, none⟩ = some (.int .u32 ((rd_T35 l0_1 x32_2).f1)) ∧ w'.cell? ⟨gb143, 2, none⟩ = some (.int .u32 ((rd_T35 l0_1 x32_2).f2)) ∧ w'.cell? ⟨gb143, 3, none⟩ = some (.int .u8 ((rd_T35 l0_1 x32_2).f3))) ∧ (Kd.R (Kd.int .u8) 5 w' w.heap.size (fun k_ => some k_ ≠ (s_.2 : Value).ownBlock ∧ some k_ ≠ (.slice Ao39 x4_2.length co39 : Value).ownBlock) s_.1 y144) ∧ (Kd.R (Kd.int .u8) 5 w' w.heap.size (fun k_ => some k_ ≠ (s_.1 : Value).ownBlock ∧ some k_ ≠ (.slice Ao39 x4_2.length co39 : Value).ownBlock) s_.2 y156) ∧ (Kd.R (Kd.int .u8) 5 w' w.heap.size (fun k_ => some k_ ≠ (s_.1 : Value).ownBlock ∧ some k_ ≠ (s_.2 : Value).ownBlock) (.slice Ao39 x4_2.length co39) x4_2) ∧ (w'.heap[gb119]? = some (.cells #[.bool a0_0, .slice (some ad142) l0_1.length c0_1, .slice A0_2 l0_2.length c0_2] 26 (0, 0))) ∧ (w'.heap[gb143]? = some (.cells #[.int .i64 ((rd_T35 l0_1 x32_2).f0), .int .u32 ((rd_T35 l0_1 x32_2).f1), .int .u32 ((rd_T35 l0_1 x32_2).f2), .int .u8 ((rd_T35 l0_1 x32_2).f3)] 35 (0, 0))) ∧ (Below w.heap.size w w')) ?_ ?_
                                    rotate_left
                                    · intro hJ4_14
                                      refine join_ (σ := Value) 6 #[true, true, true, true, true, false, true, true, false, true, true, false, true, true, false, false, false] (fun s_ => [(40, s_)]) (fun s_ w' => (w'.cell? ⟨gb143, 0, none⟩ = some (.int .i64 ((rd_T35 l0_1 x32_2).f0)) ∧ w'.cell? ⟨gb143, 1, none⟩ = some (.int .u32 ((rd_T35 l0_1 x32_2).f1)) ∧ w'.cell? ⟨gb143, 2, none⟩ = some (.int .u32 ((rd_T35 l0_1 x32_2).f2)) ∧ w'.cell? ⟨gb143, 3, none⟩ = some (.int .u8 ((rd_T35 l0_1 x32_2).f3))) ∧ (Kd.R (Kd.int .u8) 5 w' w.heap.size (fun k_ => some k_ ≠ (.slice Ao39 x4_2.length co39 : Value).ownBlock) s_ y144) ∧ (Kd.R (Kd.int .u8) 5 w' w.heap.size (fun k_ => some k_ ≠ (s_ : Value).ownBlock) (.slice Ao39 x4_2.length co39) x4_2) ∧ (w'.heap[gb119]? = some (.cells #[.bool a0_0, .slice (some ad142) l0_1.length c0_1, .slice A0_2 l0_2.length c0_2] 26 (0, 0))) ∧ (w'.heap[gb143]? = some (.cells #[.int .i64 ((rd_T35 l0_1 x32_2).f0), .int .u32 ((rd_T35 l0_1 x32_2).f1), .int .u32 ((rd_T35 l0_1 x32_2).f2), .int .u8 ((rd_T35 l0_1 x32_2).f3)] 35 (0, 0))) ∧ (Below w.heap.size w w')) ?_ ?_
                                      rotate_left
                                      · intro hJ4
                                        refine join_ (σ := Value) 6 #[true, true, true, true, false, false, true, true, false, true, true, false, true, true, true, false, false] (fun s_ => [(50, s_)]) (fun s_ w' => (w'.cell? ⟨gb143, 0, none⟩ = some (.int .i64 ((rd_T35 l0_1 x32_2).f0)) ∧ w'.cell? ⟨gb143, 1, none⟩ = some (.int .u32 ((rd_T35 l0_1 x32_2).f1)) ∧ w'.cell? ⟨gb143, 2, none⟩ = some (.int .u32 ((rd_T35 l0_1 x32_2).f2)) ∧ w'.cell? ⟨gb143, 3, none⟩ = some (.int .u8 ((rd_T35 l0_1 x32_2).f3))) ∧ (Kd.R (Kd.int .u8) 5 w' w.heap.size (fun k_ => some k_ ≠ (.slice Ao39 x4_2.length co39 : Value).ownBlock) s_ y156) ∧ (Kd.R (Kd.int .u8) 5 w' w.heap.size (fun k_ => some k_ ≠ (s_ : Value).ownBlock) (.slice Ao39 x4_2.length co39) x4_2) ∧ (w'.heap[gb119]? = some (.cells #[.bool a0_0, .slice (some ad142) l0_1.length c0_1, .slice A0_2 l0_2.length c0_2] 26 (0, 0))) ∧ (w'.heap[gb143]? = some (.cells #[.int .i64 ((rd_T35 l0_1 x32_2).f0), .int .u32 ((rd_T35 l0_1 x32_2).f1), .int .u32 ((rd_T35 l0_1 x32_2).f2), .int .u8 ((rd_T35 l0_1 x32_2).f3)] 35 (0, 0))) ∧ (Below w.heap.size w w')) ?_ ?_
                                        rotate_left
                                        · intro hJ14
                                          refine two_ (i := 4) (j := 14) (Ni := some 40) (Nj := some 50) #[true, true, true, true, true, false, true, true, false, true, true, false, true, true, false, false, false] #[true, true, true, true, false, false, true, true, false, true, true, false, true, true, true, false, false] rfl rfl rfl rfl (two_of HT_.out (by kernel_rfl)) (by decide) (by decide) (fun K hK => ?_) (fun K hK => ?_)
                                          · skip
                                            refine Kd.R_lit_step (Kd.int .u8) _ 5 ?hg (N := 40) ?hd (xs := ([((rd_T35 l0_1 x32_2).f0) % 256] : List Int)) (inner := [.int .u8 (((rd_T35 l0_1 x32_2).f0) % 256)]) (ok := fun _ => True) (okp := fun _ => True) ?hr ?hp (fun _ hk => hk) trivial (Below.refl _ _) (Nat.le_refl _) (by simp) ?_; (case hd => rfl); (case hg => rfl); (case hr => first | (go_simp; done) | (go_simp; rfl)); (case hp => exact (Reps.one (show Kd.M (Kd.int .u8) _ _ _ (((rd_T35 l0_1 x32_2).f0) % 256) [.int .u8 (((rd_T35 l0_1 x32_2).f0) % 256)] from rfl) (Reps.none _ _)))
                                            intro v145 w42 ho43 hb hg_ hnew_
                                            clear hg_ hnew_
                                            (first | rw [← Ny144.out] at ho43 | (simp only [Int.reduceToNat] at ho43; rw [← Ny144.out] at ho43))
                                            have n0_ := Aside0.mk (Kd.R_elder' (by (with_reducible repeat (first | apply Kd.R_alloc | apply Kd.R_drewN | apply Kd.R_drew)); exact HO_4.out) (Kd.R_base ho43) hb)
                                            have n1_ := Aside0.mk (Kd.R_lower (Kd.R_new' ho43 (Kd.R_lt (by (with_reducible repeat (first | apply Kd.R_alloc | apply Kd.R_drewN | apply Kd.R_drew)); exact HO_4.out))) (below_size (by repeat (first | (with_reducible first | exact HB.out | apply below_alloc | apply pw_below_drewN | apply below_drew1 | refine below_set ?_ GE119.out | refine below_set ?_ GE143.out) | exact HB.out))))
                                            have n2_ := Aside0.mk (blk_below (g := gb119) (o := .cells #[.bool a0_0, .slice (some ad142) l0_1.length c0_1, .slice A0_2 l0_2.length c0_2] 26 (0, 0)) (by (with_reducible repeat (first | refine blk_drewN ?_ _ | refine blk_drew ?_ | refine blk_alloc ?_ _)); exact BK119.out) hb)
                                            have n3_ := Aside0.mk (blk_below (g := gb143) (o := .cells #[.int .i64 ((rd_T35 l0_1 x32_2).f0), .int .u32 ((rd_T35 l0_1 x32_2).f1), .int .u32 ((rd_T35 l0_1 x32_2).f2), .int .u8 ((rd_T35 l0_1 x32_2).f3)] 35 (0, 0)) (by (with_reducible repeat (first | refine blk_drewN ?_ _ | refine blk_drew ?_ | refine blk_alloc ?_ _)); exact BK143.out) hb)
                                            have n4_ := Aside0.mk (below_step (by repeat (first | (with_reducible first | exact HB.out | apply below_alloc | apply pw_below_drewN | apply below_drew1 | refine below_set ?_ GE119.out | refine below_set ?_ GE143.out) | exact HB.out)) hb)
                                            clear HO_4
                                            clear BK119
                                            clear BK143
                                            clear HB
                                            have HO_4 := n0_
                                            have HO146 := n1_
                                            have BK119 := n2_
                                            have BK143 := n3_
                                            have HB := n4_
                                            clear n0_ n1_ n2_ n3_ n4_
                                            clear hb ho43
                                            refine hK.out _ _ ⟨(blk_cell BK143.out 0).trans rfl, (blk_cell BK143.out 1).trans rfl, (blk_cell BK143.out 2).trans rfl, (blk_cell BK143.out 3).trans rfl⟩ (fun hHeld => ?_)
                                            clear hK K
                                            refine norm_ (a' := ?_) ?_ ?_
                                            rotate_left
                                            · show Act.put _ (some 40) _ = _
                                              simp only [Act.put, List.setIfInBounds_toArray, List.set_cons_zero, List.set_cons_succ, i64_w, i32_w]
                                              rfl
                                            exact norm_ (by first | (simp only [putAll, Act.put, List.setIfInBounds_toArray, List.set_cons_zero, List.set_cons_succ]; done) | (simp only [putAll, Act.put, List.setIfInBounds_toArray, List.set_cons_zero, List.set_cons_succ]; rfl)) (hJ4 (_) _ ⟨hHeld, (by (with_reducible repeat (first | apply Kd.R_alloc | apply Kd.R_drewN | apply Kd.R_drew)); exact Kd.R_mono HO146.out (fun _ hk => hk.2)), (by (with_reducible repeat (first | apply Kd.R_alloc | apply Kd.R_drewN | apply Kd.R_drew)); exact Kd.R_mono HO_4.out (fun _ hk => hk.2)), (by (with_reducible repeat (first | refine blk_drewN ?_ _ | refine blk_drew ?_ | refine blk_alloc ?_ _)); exact BK119.out), (by (with_reducible repeat (first | refine blk_drewN ?_ _ | refine blk_drew ?_ | refine blk_alloc ?_ _)); exact BK143.out), (by repeat (first | (with_reducible first | exact HB.out | apply below_alloc | apply pw_below_drewN | apply below_drew1 | refine below_set ?_ GE119.out | refine below_set ?_ GE143.out) | exact HB.out))⟩)
                                          · skip
                                            refine Kd.R_lit_step (Kd.int .u8) _ 5 ?hg (N := 50) ?hd (xs := ([(rd_T35 l0_1 x32_2).f3] : List Int)) (inner := [.int .u8 ((rd_T35 l0_1 x32_2).f3)]) (ok := fun _ => True) (okp := fun _ => True) ?hr ?hp (fun _ hk => hk) trivial (Below.refl _ _) (Nat.le_refl _) (by simp) ?_; (case hd => rfl); (case hg => rfl); (case hr => first | (go_simp; done) | (go_simp; rfl)); (case hp => exact (Reps.one (show Kd.M (Kd.int .u8) _ _ _ ((rd_T35 l0_1 x32_2).f3) [.int .u8 ((rd_T35 l0_1 x32_2).f3)] from rfl) (Reps.none _ _)))
                                            intro v157 w42 ho43 hb hg_ hnew_
                                            clear hg_ hnew_
                                            (first | rw [← Ny156.out] at ho43 | (simp only [Int.reduceToNat] at ho43; rw [← Ny156.out] at ho43))
                                            have n0_ := Aside0.mk (Kd.R_elder' (by (with_reducible repeat (first | apply Kd.R_alloc | apply Kd.R_drewN | apply Kd.R_drew)); exact HO_4.out) (Kd.R_base ho43) hb)
                                            have n1_ := Aside0.mk (Kd.R_lower (Kd.R_new' ho43 (Kd.R_lt (by (with_reducible repeat (first | apply Kd.R_alloc | apply Kd.R_drewN | apply Kd.R_drew)); exact HO_4.out))) (below_size (by repeat (first | (with_reducible first | exact HB.out | apply below_alloc | apply pw_below_drewN | apply below_drew1 | refine below_set ?_ GE119.out | refine below_set ?_ GE143.out) | exact HB.out))))
                                            have n2_ := Aside0.mk (blk_below (g := gb119) (o := .cells #[.bool a0_0, .slice (some ad142) l0_1.length c0_1, .slice A0_2 l0_2.length c0_2] 26 (0, 0)) (by (with_reducible repeat (first | refine blk_drewN ?_ _ | refine blk_drew ?_ | refine blk_alloc ?_ _)); exact BK119.out) hb)
                                            have n3_ := Aside0.mk (blk_below (g := gb143) (o := .cells #[.int .i64 ((rd_T35 l0_1 x32_2).f0), .int .u32 ((rd_T35 l0_1 x32_2).f1), .int .u32 ((rd_T35 l0_1 x32_2).f2), .int .u8 ((rd_T35 l0_1 x32_2).f3)] 35 (0, 0)) (by (with_reducible repeat (first | refine blk_drewN ?_ _ | refine blk_drew ?_ | refine blk_alloc ?_ _)); exact BK143.out) hb)
                                            have n4_ := Aside0.mk (below_step (by repeat (first | (with_reducible first | exact HB.out | apply below_alloc | apply pw_below_drewN | apply below_drew1 | refine below_set ?_ GE119.out | refine below_set ?_ GE143.out) | exact HB.out)) hb)
                                            clear HO_4
                                            clear BK119
                                            clear BK143
                                            clear HB
                                            have HO_4 := n0_
                                            have HO158 := n1_
                                            have BK119 := n2_
                                            have BK143 := n3_
                                            have HB := n4_
                                            clear n0_ n1_ n2_ n3_ n4_
                                            clear hb ho43
                                            refine hK.out _ _ ⟨(blk_cell BK143.out 0).trans rfl, (blk_cell BK143.out 1).trans rfl, (blk_cell BK143.out 2).trans rfl, (blk_cell BK143.out 3).trans rfl⟩ (fun hHeld => ?_)
                                            clear hK K
                                            refine norm_ (a' := ?_) ?_ ?_
                                            rotate_left
                                            · show Act.put _ (some 50) _ = _
                                              simp only [Act.put, List.setIfInBounds_toArray, List.set_cons_zero, List.set_cons_succ, i64_w, i32_w]
                                              rfl
                                            exact norm_ (by first | (simp only [putAll, Act.put, List.setIfInBounds_toArray, List.set_cons_zero, List.set_cons_succ]; done) | (simp only [putAll, Act.put, List.setIfInBounds_toArray, List.set_cons_zero, List.set_cons_succ]; rfl)) (hJ14 (v157) _ ⟨hHeld, (by (with_reducible repeat (first | apply Kd.R_alloc | apply Kd.R_drewN | apply Kd.R_drew)); exact Kd.R_mono HO158.out (fun _ hk => hk.2)), (by (with_reducible repeat (first | apply Kd.R_alloc | apply Kd.R_drewN | apply Kd.R_drew)); exact Kd.R_mono HO_4.out (fun _ hk => hk.2)), (by (with_reducible repeat (first | refine blk_drewN ?_ _ | refine blk_drew ?_ | refine blk_alloc ?_ _)); exact BK119.out), (by (with_reducible repeat (first | refine blk_drewN ?_ _ | refine blk_drew ?_ | refine blk_alloc ?_ _)); exact BK143.out), (by repeat (first | (with_reducible first | exact HB.out | apply below_alloc | apply pw_below_drewN | apply below_drew1 | refine below_set ?_ GE119.out | refine below_set ?_ GE143.out) | exact HB.out))⟩)
                                        · skip
                                          rintro v157 w44 ⟨hS_, h0_, h1_, h2_, h3_, h4_⟩
                                          have n0_ : Aside0 (Kd.R (Kd.int .u8) 5 w44 w.heap.size (fun k_ => some k_ ≠ (.slice Ao39 x4_2.length co39 : Value).ownBlock) v157 y156) := ⟨h0_⟩
                                          have n1_ : Aside0 (Kd.R (Kd.int .u8) 5 w44 w.heap.size (fun k_ => some k_ ≠ (v157 : Value).ownBlock) (.slice Ao39 x4_2.length co39) x4_2) := ⟨h1_⟩
                                          have n2_ : Aside0 (w44.heap[gb119]? = some (.cells #[.bool a0_0, .slice (some ad142) l0_1.length c0_1, .slice A0_2 l0_2.length c0_2] 26 (0, 0))) := ⟨h2_⟩
                                          have n3_ : Aside0 (w44.heap[gb143]? = some (.cells #[.int .i64 ((rd_T35 l0_1 x32_2).f0), .int .u32 ((rd_T35 l0_1 x32_2).f1), .int .u32 ((rd_T35 l0_1 x32_2).f2), .int .u8 ((rd_T35 l0_1 x32_2).f3)] 35 (0, 0))) := ⟨h3_⟩
                                          have n4_ : Aside0 (Below w.heap.size w w44) := ⟨h4_⟩
                                          clear HO_4
                                          clear BK119
                                          clear BK143
                                          clear HB
                                          clear h0_ h1_ h2_ h3_ h4_
                                          have HO158 := n0_
                                          have HO_4 := n1_
                                          have BK119 := n2_
                                          have BK143 := n3_
                                          have HB := n4_
                                          clear n0_ n1_ n2_ n3_ n4_
                                          have hHeld : w44.cell? ⟨gb143, 0, none⟩ = some (.int .i64 ((rd_T35 l0_1 x32_2).f0)) ∧ w44.cell? ⟨gb143, 1, none⟩ = some (.int .u32 ((rd_T35 l0_1 x32_2).f1)) ∧ w44.cell? ⟨gb143, 2, none⟩ = some (.int .u32 ((rd_T35 l0_1 x32_2).f2)) ∧ w44.cell? ⟨gb143, 3, none⟩ = some (.int .u8 ((rd_T35 l0_1 x32_2).f3)) := hS_
                                          refine norm_ (a' := ?_) ?_ ?_
                                          rotate_left
                                          · simp only [putAll, Act.put, List.setIfInBounds_toArray, List.set_cons_zero, List.set_cons_succ]
                                            rfl
                                          refine one_ (i := 4) (N := some 40) #[true, true, true, true, true, false, true, true, false, true, true, false, true, true, true, false, false] rfl rfl (one_of HT_.out (by kernel_rfl)) (by decide) (fun K hK => ?_)
                                          refine Kd.R_lit_step (Kd.int .u8) _ 5 ?hg (N := 40) ?hd (xs := ([((rd_T35 l0_1 x32_2).f0) % 256] : List Int)) (inner := [.int .u8 (((rd_T35 l0_1 x32_2).f0) % 256)]) (ok := fun _ => True) (okp := fun _ => True) ?hr ?hp (fun _ hk => hk) trivial (Below.refl _ _) (Nat.le_refl _) (by simp) ?_; (case hd => rfl); (case hg => rfl); (case hr => first | (go_simp; done) | (go_simp; rfl)); (case hp => exact (Reps.one (show Kd.M (Kd.int .u8) _ _ _ (((rd_T35 l0_1 x32_2).f0) % 256) [.int .u8 (((rd_T35 l0_1 x32_2).f0) % 256)] from rfl) (Reps.none _ _)))
                                          intro v145 w45 ho46 hb hg_ hnew_
                                          clear hg_ hnew_
                                          (first | rw [← Ny144.out] at ho46 | (simp only [Int.reduceToNat] at ho46; rw [← Ny144.out] at ho46))
                                          have n0_ := Aside0.mk (Kd.R_elder' (by (with_reducible repeat (first | apply Kd.R_alloc | apply Kd.R_drewN | apply Kd.R_drew)); exact HO_4.out) (Kd.R_base ho46) hb)
                                          have n1_ := Aside0.mk (Kd.R_elder' (by (with_reducible repeat (first | apply Kd.R_alloc | apply Kd.R_drewN | apply Kd.R_drew)); exact HO158.out) (Kd.R_base ho46) hb)
                                          have n2_ := Aside0.mk (Kd.R_lower (Kd.R_new' (Kd.R_new' ho46 (Kd.R_lt (by (with_reducible repeat (first | apply Kd.R_alloc | apply Kd.R_drewN | apply Kd.R_drew)); exact HO_4.out))) (Kd.R_lt (by (with_reducible repeat (first | apply Kd.R_alloc | apply Kd.R_drewN | apply Kd.R_drew)); exact HO158.out))) (below_size (by repeat (first | (with_reducible first | exact HB.out | apply below_alloc | apply pw_below_drewN | apply below_drew1 | refine below_set ?_ GE119.out | refine below_set ?_ GE143.out) | exact HB.out))))
                                          have n3_ := Aside0.mk (blk_below (g := gb119) (o := .cells #[.bool a0_0, .slice (some ad142) l0_1.length c0_1, .slice A0_2 l0_2.length c0_2] 26 (0, 0)) (by (with_reducible repeat (first | refine blk_drewN ?_ _ | refine blk_drew ?_ | refine blk_alloc ?_ _)); exact BK119.out) hb)
                                          have n4_ := Aside0.mk (blk_below (g := gb143) (o := .cells #[.int .i64 ((rd_T35 l0_1 x32_2).f0), .int .u32 ((rd_T35 l0_1 x32_2).f1), .int .u32 ((rd_T35 l0_1 x32_2).f2), .int .u8 ((rd_T35 l0_1 x32_2).f3)] 35 (0, 0)) (by (with_reducible repeat (first | refine blk_drewN ?_ _ | refine blk_drew ?_ | refine blk_alloc ?_ _)); exact BK143.out) hb)
                                          have n5_ := Aside0.mk (below_step (by repeat (first | (with_reducible first | exact HB.out | apply below_alloc | apply pw_below_drewN | apply below_drew1 | refine below_set ?_ GE119.out | refine below_set ?_ GE143.out) | exact HB.out)) hb)
                                          clear HO_4
                                          clear HO158
                                          clear BK119
                                          clear BK143
                                          clear HB
                                          have HO_4 := n0_
                                          have HO158 := n1_
                                          have HO146 := n2_
                                          have BK119 := n3_
                                          have BK143 := n4_
                                          have HB := n5_
                                          clear n0_ n1_ n2_ n3_ n4_ n5_
                                          clear hb ho46
                                          refine hK.out _ _ ⟨(blk_cell BK143.out 0).trans rfl, (blk_cell BK143.out 1).trans rfl, (blk_cell BK143.out 2).trans rfl, (blk_cell BK143.out 3).trans rfl⟩ (fun hHeld => ?_)
                                          clear hK K
                                          refine norm_ (a' := ?_) ?_ ?_
                                          rotate_left
                                          · show Act.put _ (some 40) _ = _
                                            simp only [Act.put, List.setIfInBounds_toArray, List.set_cons_zero, List.set_cons_succ, i64_w, i32_w]
                                            rfl
                                          exact norm_ (by first | (simp only [putAll, Act.put, List.setIfInBounds_toArray, List.set_cons_zero, List.set_cons_succ]; done) | (simp only [putAll, Act.put, List.setIfInBounds_toArray, List.set_cons_zero, List.set_cons_succ]; rfl)) (hJ4_14 (_, v157) _ ⟨hHeld, (by (with_reducible repeat (first | apply Kd.R_alloc | apply Kd.R_drewN | apply Kd.R_drew)); exact Kd.R_mono HO146.out (fun _ hk => ⟨hk.2, hk.1.2⟩)), (by (with_reducible repeat (first | apply Kd.R_alloc | apply Kd.R_drewN | apply Kd.R_drew)); exact Kd.R_mono HO158.out (fun _ hk => ⟨hk.2, hk.1⟩)), (by (with_reducible repeat (first | apply Kd.R_alloc | apply Kd.R_drewN | apply Kd.R_drew)); exact Kd.R_mono HO_4.out (fun _ hk => ⟨hk.2, hk.1⟩)), (by (with_reducible repeat (first | refine blk_drewN ?_ _ | refine blk_drew ?_ | refine blk_alloc ?_ _)); exact BK119.out), (by (with_reducible repeat (first | refine blk_drewN ?_ _ | refine blk_drew ?_ | refine blk_alloc ?_ _)); exact BK143.out), (by repeat (first | (with_reducible first | exact HB.out | apply below_alloc | apply pw_below_drewN | apply below_drew1 | refine below_set ?_ GE119.out | refine below_set ?_ GE143.out) | exact HB.out))⟩)
                                      · skip
                                        rintro v145 w44 ⟨hS_, h0_, h1_, h2_, h3_, h4_⟩
                                        have n0_ : Aside0 (Kd.R (Kd.int .u8) 5 w44 w.heap.size (fun k_ => some k_ ≠ (.slice Ao39 x4_2.length co39 : Value).ownBlock) v145 y144) := ⟨h0_⟩
                                        have n1_ : Aside0 (Kd.R (Kd.int .u8) 5 w44 w.heap.size (fun k_ => some k_ ≠ (v145 : Value).ownBlock) (.slice Ao39 x4_2.length co39) x4_2) := ⟨h1_⟩
                                        have n2_ : Aside0 (w44.heap[gb119]? = some (.cells #[.bool a0_0, .slice (some ad142) l0_1.length c0_1, .slice A0_2 l0_2.length c0_2] 26 (0, 0))) := ⟨h2_⟩
                                        have n3_ : Aside0 (w44.heap[gb143]? = some (.cells #[.int .i64 ((rd_T35 l0_1 x32_2).f0), .int .u32 ((rd_T35 l0_1 x32_2).f1), .int .u32 ((rd_T35 l0_1 x32_2).f2), .int .u8 ((rd_T35 l0_1 x32_2).f3)] 35 (0, 0))) := ⟨h3_⟩
                                        have n4_ : Aside0 (Below w.heap.size w w44) := ⟨h4_⟩
                                        clear HO_4
                                        clear BK119
                                        clear BK143
                                        clear HB
                                        clear h0_ h1_ h2_ h3_ h4_
                                        have HO146 := n0_
                                        have HO_4 := n1_
                                        have BK119 := n2_
                                        have BK143 := n3_
                                        have HB := n4_
                                        clear n0_ n1_ n2_ n3_ n4_
                                        have hHeld : w44.cell? ⟨gb143, 0, none⟩ = some (.int .i64 ((rd_T35 l0_1 x32_2).f0)) ∧ w44.cell? ⟨gb143, 1, none⟩ = some (.int .u32 ((rd_T35 l0_1 x32_2).f1)) ∧ w44.cell? ⟨gb143, 2, none⟩ = some (.int .u32 ((rd_T35 l0_1 x32_2).f2)) ∧ w44.cell? ⟨gb143, 3, none⟩ = some (.int .u8 ((rd_T35 l0_1 x32_2).f3)) := hS_
                                        obtain ⟨Ao46, co46, eo46⟩ := Kd.R_slice HO146.out
                                        (first | subst eo46 | (injection eo46 with f1_ f2_ f3_; have f4_ := f1_.symm; have f5_ := f3_.symm; clear f1_ f2_ f3_; subst f4_; subst f5_))
                                        refine norm_ (a' := ?_) ?_ ?_
                                        rotate_left
                                        · simp only [putAll, Act.put, List.setIfInBounds_toArray, List.set_cons_zero, List.set_cons_succ]
                                          rfl
                                        refine two_ (i := 5) (j := 14) (Ni := some 41) (Nj := some 50) #[true, true, true, true, true, true, true, true, false, true, true, false, true, true, false, false, false] #[true, true, true, true, true, false, true, true, false, true, true, false, true, true, true, false, false] rfl rfl rfl rfl (two_of HT_.out (by kernel_rfl)) (by decide) (by decide) (fun K hK => ?_) (fun K hK => ?_)
                                        · skip
                                          refine Kd.R_append_rows_step (Kd.int .u8) (w0 := w) w.heap.size (by rfl) (.tmp 36) (.tmp 40) 30 5 (.int .u8 0) 1 rfl Try.underlying30 info5 rfl (by decide) (by omega) (.slice Ao39 x4_2.length co39) x4_2 y144 _ _ _ (fun k_ => some k_ ≠ (.slice Ao46 y144.length co46 : Value).ownBlock) (fun _ => False) rfl rfl ?aO ?aR (fun _ _ h => h) (fun _ h => h.elim) ?aF ?aB ?aS ?aL ?_
                                          (case aR => repeat (first | exact (Kd.R_reads' HO146.out).2.2 | (with_reducible refine Kd.C_alloc ?_ _) | (with_reducible refine Kd.C_drewN ?_ _) | (with_reducible refine Kd.C_drew ?_)))
                                          (case aB => exact (by repeat (first | (with_reducible first | exact HB.out | apply below_alloc | apply pw_below_drewN | apply below_drew1 | refine below_set ?_ GE119.out | refine below_set ?_ GE143.out) | exact HB.out)))
                                          (case aF => exact (fun k_ hk => Kd.fresh' (Kd.R_lt (by (with_reducible repeat (first | apply Kd.R_alloc | apply Kd.R_drewN | apply Kd.R_drew)); exact HO146.out)) k_ hk))
                                          (case aO => exact (by (with_reducible repeat (first | apply Kd.R_alloc | apply Kd.R_drewN | apply Kd.R_drew)); exact HO_4.out))
                                          (case aS => exact (below_size (by repeat (first | (with_reducible first | exact HB.out | apply below_alloc | apply pw_below_drewN | apply below_drew1 | refine below_set ?_ GE119.out | refine below_set ?_ GE143.out) | exact HB.out))))
                                          (case aL => have := LMc32.out; omega)
                                          intro v148 w45 ho hb hg hat
                                          rw [← Ny147.out] at ho
                                          have n0_ := Aside0.mk (blk_grown (g := gb119) (o := .cells #[.bool a0_0, .slice (some ad142) l0_1.length c0_1, .slice A0_2 l0_2.length c0_2] 26 (0, 0)) (by (with_reducible repeat (first | refine blk_drewN ?_ _ | refine blk_drew ?_ | refine blk_alloc ?_ _)); exact BK119.out) hg (Kd.R_ne HO_4.out BK119.out (by decide)))
                                          have n1_ := Aside0.mk (blk_grown (g := gb143) (o := .cells #[.int .i64 ((rd_T35 l0_1 x32_2).f0), .int .u32 ((rd_T35 l0_1 x32_2).f1), .int .u32 ((rd_T35 l0_1 x32_2).f2), .int .u8 ((rd_T35 l0_1 x32_2).f3)] 35 (0, 0)) (by (with_reducible repeat (first | refine blk_drewN ?_ _ | refine blk_drew ?_ | refine blk_alloc ?_ _)); exact BK143.out) hg (Kd.R_ne HO_4.out BK143.out (by decide)))
                                          have n2_ := Aside0.mk (Kd.R_after (ok := (fun _ => True)) (by (with_reducible repeat (first | apply Kd.R_alloc | apply Kd.R_drewN | apply Kd.R_drew)); exact Kd.R_mono HO146.out (fun _ hk => ⟨trivial, hk⟩)) hg hat)
                                          have n3_ := Aside0.mk (hb)
                                          have n4_ := Aside0.mk (ho)
                                          clear BK119
                                          clear BK143
                                          clear HO146
                                          clear HB
                                          clear HO_4
                                          have BK119 := n0_
                                          have BK143 := n1_
                                          have HO146 := n2_
                                          have HB := n3_
                                          have HO149 := n4_
                                          clear n0_ n1_ n2_ n3_ n4_
                                          clear ho hb hg hat
                                          refine hK.out _ _ ⟨(blk_cell BK143.out 0).trans rfl, (blk_cell BK143.out 1).trans rfl, (blk_cell BK143.out 2).trans rfl, (blk_cell BK143.out 3).trans rfl⟩ (fun hHeld => ?_)
                                          clear hK K
                                          refine norm_ (a' := ?_) ?_ ?_
                                          rotate_left
                                          · show Act.put _ (some 41) _ = _
                                            simp only [Act.put, List.setIfInBounds_toArray, List.set_cons_zero, List.set_cons_succ, i64_w, i32_w]
                                            rfl
                                          exact norm_ (by first | (simp only [putAll, Act.put, List.setIfInBounds_toArray, List.set_cons_zero, List.set_cons_succ]; done) | (simp only [putAll, Act.put, List.setIfInBounds_toArray, List.set_cons_zero, List.set_cons_succ]; rfl)) (hJ4_5 (.slice Ao46 y144.length co46, _) _ ⟨hHeld, (by (with_reducible repeat (first | apply Kd.R_alloc | apply Kd.R_drewN | apply Kd.R_drew)); exact Kd.R_mono HO146.out (fun _ hk => hk.2)), (by (with_reducible repeat (first | apply Kd.R_alloc | apply Kd.R_drewN | apply Kd.R_drew)); exact HO149.out), (by (with_reducible repeat (first | refine blk_drewN ?_ _ | refine blk_drew ?_ | refine blk_alloc ?_ _)); exact BK119.out), (by (with_reducible repeat (first | refine blk_drewN ?_ _ | refine blk_drew ?_ | refine blk_alloc ?_ _)); exact BK143.out), (by repeat (first | (with_reducible first | exact HB.out | apply below_alloc | apply pw_below_drewN | apply below_drew1 | refine below_set ?_ GE119.out | refine below_set ?_ GE143.out) | exact HB.out))⟩)
                                        · skip
                                          refine Kd.R_lit_step (Kd.int .u8) _ 5 ?hg (N := 50) ?hd (xs := ([(rd_T35 l0_1 x32_2).f3] : List Int)) (inner := [.int .u8 ((rd_T35 l0_1 x32_2).f3)]) (ok := fun _ => True) (okp := fun _ => True) ?hr ?hp (fun _ hk => hk) trivial (Below.refl _ _) (Nat.le_refl _) (by simp) ?_; (case hd => rfl); (case hg => rfl); (case hr => first | (go_simp; done) | (go_simp; rfl)); (case hp => exact (Reps.one (show Kd.M (Kd.int .u8) _ _ _ ((rd_T35 l0_1 x32_2).f3) [.int .u8 ((rd_T35 l0_1 x32_2).f3)] from rfl) (Reps.none _ _)))
                                          intro v157 w45 ho46 hb hg_ hnew_
                                          clear hg_ hnew_
                                          (first | rw [← Ny156.out] at ho46 | (simp only [Int.reduceToNat] at ho46; rw [← Ny156.out] at ho46))
                                          have n0_ := Aside0.mk (Kd.R_elder' (by (with_reducible repeat (first | apply Kd.R_alloc | apply Kd.R_drewN | apply Kd.R_drew)); exact HO_4.out) (Kd.R_base ho46) hb)
                                          have n1_ := Aside0.mk (Kd.R_elder' (by (with_reducible repeat (first | apply Kd.R_alloc | apply Kd.R_drewN | apply Kd.R_drew)); exact HO146.out) (Kd.R_base ho46) hb)
                                          have n2_ := Aside0.mk (Kd.R_lower (Kd.R_new' (Kd.R_new' ho46 (Kd.R_lt (by (with_reducible repeat (first | apply Kd.R_alloc | apply Kd.R_drewN | apply Kd.R_drew)); exact HO_4.out))) (Kd.R_lt (by (with_reducible repeat (first | apply Kd.R_alloc | apply Kd.R_drewN | apply Kd.R_drew)); exact HO146.out))) (below_size (by repeat (first | (with_reducible first | exact HB.out | apply below_alloc | apply pw_below_drewN | apply below_drew1 | refine below_set ?_ GE119.out | refine below_set ?_ GE143.out) | exact HB.out))))
                                          have n3_ := Aside0.mk (blk_below (g := gb119) (o := .cells #[.bool a0_0, .slice (some ad142) l0_1.length c0_1, .slice A0_2 l0_2.length c0_2] 26 (0, 0)) (by (with_reducible repeat (first | refine blk_drewN ?_ _ | refine blk_drew ?_ | refine blk_alloc ?_ _)); exact BK119.out) hb)
                                          have n4_ := Aside0.mk (blk_below (g := gb143) (o := .cells #[.int .i64 ((rd_T35 l0_1 x32_2).f0), .int .u32 ((rd_T35 l0_1 x32_2).f1), .int .u32 ((rd_T35 l0_1 x32_2).f2), .int .u8 ((rd_T35 l0_1 x32_2).f3)] 35 (0, 0)) (by (with_reducible repeat (first | refine blk_drewN ?_ _ | refine blk_drew ?_ | refine blk_alloc ?_ _)); exact BK143.out) hb)
                                          have n5_ := Aside0.mk (below_step (by repeat (first | (with_reducible first | exact HB.out | apply below_alloc | apply pw_below_drewN | apply below_drew1 | refine below_set ?_ GE119.out | refine below_set ?_ GE143.out) | exact HB.out)) hb)
                                          clear HO_4
                                          clear HO146
                                          clear BK119
                                          clear BK143
                                          clear HB
                                          have HO_4 := n0_
                                          have HO146 := n1_
                                          have HO158 := n2_
                                          have BK119 := n3_
                                          have BK143 := n4_
                                          have HB := n5_
                                          clear n0_ n1_ n2_ n3_ n4_ n5_
                                          clear hb ho46
                                          refine hK.out _ _ ⟨(blk_cell BK143.out 0).trans rfl, (blk_cell BK143.out 1).trans rfl, (blk_cell BK143.out 2).trans rfl, (blk_cell BK143.out 3).trans rfl⟩ (fun hHeld => ?_)
                                          clear hK K
                                          refine norm_ (a' := ?_) ?_ ?_
                                          rotate_left
                                          · show Act.put _ (some 50) _ = _
                                            simp only [Act.put, List.setIfInBounds_toArray, List.set_cons_zero, List.set_cons_succ, i64_w, i32_w]
                                            rfl
                                          exact norm_ (by first | (simp only [putAll, Act.put, List.setIfInBounds_toArray, List.set_cons_zero, List.set_cons_succ]; done) | (simp only [putAll, Act.put, List.setIfInBounds_toArray, List.set_cons_zero, List.set_cons_succ]; rfl)) (hJ4_14 (_, v157) _ ⟨hHeld, (by (with_reducible repeat (first | apply Kd.R_alloc | apply Kd.R_drewN | apply Kd.R_drew)); exact Kd.R_mono HO146.out (fun _ hk => ⟨hk.2, hk.1⟩)), (by (with_reducible repeat (first | apply Kd.R_alloc | apply Kd.R_drewN | apply Kd.R_drew)); exact Kd.R_mono HO158.out (fun _ hk => ⟨hk.2, hk.1.2⟩)), (by (with_reducible repeat (first | apply Kd.R_alloc | apply Kd.R_drewN | apply Kd.R_drew)); exact HO_4.out), (by (with_reducible repeat (first | refine blk_drewN ?_ _ | refine blk_drew ?_ | refine blk_alloc ?_ _)); exact BK119.out), (by (with_reducible repeat (first | refine blk_drewN ?_ _ | refine blk_drew ?_ | refine blk_alloc ?_ _)); exact BK143.out), (by repeat (first | (with_reducible first | exact HB.out | apply below_alloc | apply pw_below_drewN | apply below_drew1 | refine below_set ?_ GE119.out | refine below_set ?_ GE143.out) | exact HB.out))⟩)
                                    · skip
                                      rintro ⟨v145, v157⟩ w46 ⟨hS_, h0_, h1_, h2_, h3_, h4_, h5_⟩
                                      have n0_ : Aside0 (Kd.R (Kd.int .u8) 5 w46 w.heap.size (fun k_ => some k_ ≠ (v157 : Value).ownBlock ∧ some k_ ≠ (.slice Ao39 x4_2.length co39 : Value).ownBlock) v145 y144) := ⟨h0_⟩
                                      have n1_ : Aside0 (Kd.R (Kd.int .u8) 5 w46 w.heap.size (fun k_ => some k_ ≠ (v145 : Value).ownBlock ∧ some k_ ≠ (.slice Ao39 x4_2.length co39 : Value).ownBlock) v157 y156) := ⟨h1_⟩
                                      have n2_ : Aside0 (Kd.R (Kd.int .u8) 5 w46 w.heap.size (fun k_ => some k_ ≠ (v145 : Value).ownBlock ∧ some k_ ≠ (v157 : Value).ownBlock) (.slice Ao39 x4_2.length co39) x4_2) := ⟨h2_⟩
                                      have n3_ : Aside0 (w46.heap[gb119]? = some (.cells #[.bool a0_0, .slice (some ad142) l0_1.length c0_1, .slice A0_2 l0_2.length c0_2] 26 (0, 0))) := ⟨h3_⟩
                                      have n4_ : Aside0 (w46.heap[gb143]? = some (.cells #[.int .i64 ((rd_T35 l0_1 x32_2).f0), .int .u32 ((rd_T35 l0_1 x32_2).f1), .int .u32 ((rd_T35 l0_1 x32_2).f2), .int .u8 ((rd_T35 l0_1 x32_2).f3)] 35 (0, 0))) := ⟨h4_⟩
                                      have n5_ : Aside0 (Below w.heap.size w w46) := ⟨h5_⟩
                                      clear HO_4
                                      clear BK119
                                      clear BK143
                                      clear HB
                                      clear h0_ h1_ h2_ h3_ h4_ h5_
                                      have HO146 := n0_
                                      have HO158 := n1_
                                      have HO_4 := n2_
                                      have BK119 := n3_
                                      have BK143 := n4_
                                      have HB := n5_
                                      clear n0_ n1_ n2_ n3_ n4_ n5_
                                      have hHeld : w46.cell? ⟨gb143, 0, none⟩ = some (.int .i64 ((rd_T35 l0_1 x32_2).f0)) ∧ w46.cell? ⟨gb143, 1, none⟩ = some (.int .u32 ((rd_T35 l0_1 x32_2).f1)) ∧ w46.cell? ⟨gb143, 2, none⟩ = some (.int .u32 ((rd_T35 l0_1 x32_2).f2)) ∧ w46.cell? ⟨gb143, 3, none⟩ = some (.int .u8 ((rd_T35 l0_1 x32_2).f3)) := hS_
                                      obtain ⟨Ao48, co48, eo48⟩ := Kd.R_slice HO146.out
                                      (first | subst eo48 | (injection eo48 with f1_ f2_ f3_; have f4_ := f1_.symm; have f5_ := f3_.symm; clear f1_ f2_ f3_; subst f4_; subst f5_))
                                      refine norm_ (a' := ?_) ?_ ?_
                                      rotate_left
                                      · simp only [putAll, Act.put, List.setIfInBounds_toArray, List.set_cons_zero, List.set_cons_succ]
                                        rfl
                                      refine one_ (i := 5) (N := some 41) #[true, true, true, true, true, true, true, true, false, true, true, false, true, true, true, false, false] rfl rfl (one_of HT_.out (by kernel_rfl)) (by decide) (fun K hK => ?_)
                                      refine Kd.R_append_rows_step (Kd.int .u8) (w0 := w) w.heap.size (by rfl) (.tmp 36) (.tmp 40) 30 5 (.int .u8 0) 1 rfl Try.underlying30 info5 rfl (by decide) (by omega) (.slice Ao39 x4_2.length co39) x4_2 y144 _ _ _ (fun k_ => some k_ ≠ (.slice Ao48 y144.length co48 : Value).ownBlock ∧ some k_ ≠ (v157 : Value).ownBlock) (fun _ => False) rfl rfl ?aO ?aR (fun _ _ h => h) (fun _ h => h.elim) ?aF ?aB ?aS ?aL ?_
                                      (case aR => repeat (first | exact (Kd.R_reads' HO146.out).2.2 | (with_reducible refine Kd.C_alloc ?_ _) | (with_reducible refine Kd.C_drewN ?_ _) | (with_reducible refine Kd.C_drew ?_)))
                                      (case aB => exact (by repeat (first | (with_reducible first | exact HB.out | apply below_alloc | apply pw_below_drewN | apply below_drew1 | refine below_set ?_ GE119.out | refine below_set ?_ GE143.out) | exact HB.out)))
                                      (case aF => exact (fun k_ hk => ⟨Kd.fresh' (Kd.R_lt (by (with_reducible repeat (first | apply Kd.R_alloc | apply Kd.R_drewN | apply Kd.R_drew)); exact HO146.out)) k_ hk, Kd.fresh' (Kd.R_lt (by (with_reducible repeat (first | apply Kd.R_alloc | apply Kd.R_drewN | apply Kd.R_drew)); exact HO158.out)) k_ hk⟩))
                                      (case aO => exact (by (with_reducible repeat (first | apply Kd.R_alloc | apply Kd.R_drewN | apply Kd.R_drew)); exact HO_4.out))
                                      (case aS => exact (below_size (by repeat (first | (with_reducible first | exact HB.out | apply below_alloc | apply pw_below_drewN | apply below_drew1 | refine below_set ?_ GE119.out | refine below_set ?_ GE143.out) | exact HB.out))))
                                      (case aL => have := LMc32.out; omega)
                                      intro v148 w47 ho hb hg hat
                                      rw [← Ny147.out] at ho
                                      have n0_ := Aside0.mk (blk_grown (g := gb119) (o := .cells #[.bool a0_0, .slice (some ad142) l0_1.length c0_1, .slice A0_2 l0_2.length c0_2] 26 (0, 0)) (by (with_reducible repeat (first | refine blk_drewN ?_ _ | refine blk_drew ?_ | refine blk_alloc ?_ _)); exact BK119.out) hg (Kd.R_ne HO_4.out BK119.out (by decide)))
                                      have n1_ := Aside0.mk (blk_grown (g := gb143) (o := .cells #[.int .i64 ((rd_T35 l0_1 x32_2).f0), .int .u32 ((rd_T35 l0_1 x32_2).f1), .int .u32 ((rd_T35 l0_1 x32_2).f2), .int .u8 ((rd_T35 l0_1 x32_2).f3)] 35 (0, 0)) (by (with_reducible repeat (first | refine blk_drewN ?_ _ | refine blk_drew ?_ | refine blk_alloc ?_ _)); exact BK143.out) hg (Kd.R_ne HO_4.out BK143.out (by decide)))
                                      have n2_ := Aside0.mk (Kd.R_after (ok := (fun k_ => some k_ ≠ (v157 : Value).ownBlock)) (by (with_reducible repeat (first | apply Kd.R_alloc | apply Kd.R_drewN | apply Kd.R_drew)); exact HO146.out) hg hat)
                                      have n3_ := Aside0.mk (Kd.R_after (ok := (fun k_ => some k_ ≠ (.slice Ao48 y144.length co48 : Value).ownBlock)) (by (with_reducible repeat (first | apply Kd.R_alloc | apply Kd.R_drewN | apply Kd.R_drew)); exact HO158.out) hg hat)
                                      have n4_ := Aside0.mk (hb)
                                      have n5_ := Aside0.mk (ho)
                                      clear BK119
                                      clear BK143
                                      clear HO146
                                      clear HO158
                                      clear HB
                                      clear HO_4
                                      have BK119 := n0_
                                      have BK143 := n1_
                                      have HO146 := n2_
                                      have HO158 := n3_
                                      have HB := n4_
                                      have HO149 := n5_
                                      clear n0_ n1_ n2_ n3_ n4_ n5_
                                      clear ho hb hg hat
                                      refine hK.out _ _ ⟨(blk_cell BK143.out 0).trans rfl, (blk_cell BK143.out 1).trans rfl, (blk_cell BK143.out 2).trans rfl, (blk_cell BK143.out 3).trans rfl⟩ (fun hHeld => ?_)
                                      clear hK K
                                      refine norm_ (a' := ?_) ?_ ?_
                                      rotate_left
                                      · show Act.put _ (some 41) _ = _
                                        simp only [Act.put, List.setIfInBounds_toArray, List.set_cons_zero, List.set_cons_succ, i64_w, i32_w]
                                        rfl
                                      exact norm_ (by first | (simp only [putAll, Act.put, List.setIfInBounds_toArray, List.set_cons_zero, List.set_cons_succ]; done) | (simp only [putAll, Act.put, List.setIfInBounds_toArray, List.set_cons_zero, List.set_cons_succ]; rfl)) (hJ4_5_14 (.slice Ao48 y144.length co48, _, v157) _ ⟨hHeld, (by (with_reducible repeat (first | apply Kd.R_alloc | apply Kd.R_drewN | apply Kd.R_drew)); exact Kd.R_mono HO146.out (fun _ hk => ⟨hk.2, hk.1⟩)), (by (with_reducible repeat (first | apply Kd.R_alloc | apply Kd.R_drewN | apply Kd.R_drew)); exact HO149.out), (by (with_reducible repeat (first | apply Kd.R_alloc | apply Kd.R_drewN | apply Kd.R_drew)); exact HO158.out), (by (with_reducible repeat (first | refine blk_drewN ?_ _ | refine blk_drew ?_ | refine blk_alloc ?_ _)); exact BK119.out), (by (with_reducible repeat (first | refine blk_drewN ?_ _ | refine blk_drew ?_ | refine blk_alloc ?_ _)); exact BK143.out), (by repeat (first | (with_reducible first | exact HB.out | apply below_alloc | apply pw_below_drewN | apply below_drew1 | refine below_set ?_ GE119.out | refine below_set ?_ GE143.out) | exact HB.out))⟩)
                                  · skip
                                    rintro ⟨v145, v148⟩ w46 ⟨hS_, h0_, h1_, h2_, h3_, h4_⟩
                                    have n0_ : Aside0 (Kd.R (Kd.int .u8) 5 w46 w.heap.size (fun k_ => some k_ ≠ (v148 : Value).ownBlock) v145 y144) := ⟨h0_⟩
                                    have n1_ : Aside0 (Kd.R (Kd.int .u8) 5 w46 w.heap.size (fun k_ => some k_ ≠ (v145 : Value).ownBlock) v148 y147) := ⟨h1_⟩
                                    have n2_ : Aside0 (w46.heap[gb119]? = some (.cells #[.bool a0_0, .slice (some ad142) l0_1.length c0_1, .slice A0_2 l0_2.length c0_2] 26 (0, 0))) := ⟨h2_⟩
                                    have n3_ : Aside0 (w46.heap[gb143]? = some (.cells #[.int .i64 ((rd_T35 l0_1 x32_2).f0), .int .u32 ((rd_T35 l0_1 x32_2).f1), .int .u32 ((rd_T35 l0_1 x32_2).f2), .int .u8 ((rd_T35 l0_1 x32_2).f3)] 35 (0, 0))) := ⟨h3_⟩
                                    have n4_ : Aside0 (Below w.heap.size w w46) := ⟨h4_⟩
                                    clear HO_4
                                    clear BK119
                                    clear BK143
                                    clear HB
                                    clear h0_ h1_ h2_ h3_ h4_
                                    have HO146 := n0_
                                    have HO149 := n1_
                                    have BK119 := n2_
                                    have BK143 := n3_
                                    have HB := n4_
                                    clear n0_ n1_ n2_ n3_ n4_
                                    have hHeld : w46.cell? ⟨gb143, 0, none⟩ = some (.int .i64 ((rd_T35 l0_1 x32_2).f0)) ∧ w46.cell? ⟨gb143, 1, none⟩ = some (.int .u32 ((rd_T35 l0_1 x32_2).f1)) ∧ w46.cell? ⟨gb143, 2, none⟩ = some (.int .u32 ((rd_T35 l0_1 x32_2).f2)) ∧ w46.cell? ⟨gb143, 3, none⟩ = some (.int .u8 ((rd_T35 l0_1 x32_2).f3)) := hS_
                                    obtain ⟨Ao47, co47, eo47⟩ := Kd.R_slice HO149.out
                                    (first | subst eo47 | (injection eo47 with f1_ f2_ f3_; have f4_ := f1_.symm; have f5_ := f3_.symm; clear f1_ f2_ f3_; subst f4_; subst f5_))
                                    refine norm_ (a' := ?_) ?_ ?_
                                    rotate_left
                                    · simp only [putAll, Act.put, List.setIfInBounds_toArray, List.set_cons_zero, List.set_cons_succ]
                                      rfl
                                    refine two_ (i := 8) (j := 14) (Ni := some 44) (Nj := some 50) #[true, true, true, true, true, true, true, true, true, true, true, false, true, true, false, false, false] #[true, true, true, true, true, true, true, true, false, true, true, false, true, true, true, false, false] rfl rfl rfl rfl (two_of HT_.out (by kernel_rfl)) (by decide) (by decide) (fun K hK => ?_) (fun K hK => ?_)
                                    · skip
                                      refine goes_ Try.func25 (by kernel_rfl) rfl #[.slice Ao47 y147.length co47, .int .u32 ((rd_T35 l0_1 x32_2).f1)] (by rfl) rfl rfl (by (try simp only [List.map_toArray, List.map_cons, List.map_nil]); first | done | rfl | (simp only [List.length_drop, List.length_take]; rfl)) ?_
                                      with_reducible refine (policy_four.calls (fun k_ => some k_ = (.slice Ao47 y147.length co47 : Value).ownBlock) (.slice Ao47 y147.length co47) y147 ((rd_T35 l0_1 x32_2).f1) t150 w _ ?side1 ?side2 A33.out).mono ?_
                                      (case side1 => repeat (first | (with_reducible first | exact HB.out | apply below_alloc | apply pw_below_drewN | apply below_drew1 | refine below_set ?_ GE119.out | refine below_set ?_ GE143.out) | exact HB.out))
                                      (case side2 => exact Kd.R_tight rfl HO149.out)
                                      rintro e w48 ⟨v151, rfl, ho0, hb, hkp⟩
                                      refine ⟨_, rfl, ?_⟩
                                      have n0_ := Aside0.mk (blk_kept (by (with_reducible repeat (first | refine blk_drewN ?_ _ | refine blk_drew ?_ | refine blk_alloc ?_ _)); exact BK119.out) hkp (fun hs_ => (fun e_ => (Kd.R_ne HO149.out BK119.out (by decide)) e_) hs_))
                                      have n1_ := Aside0.mk (blk_kept (by (with_reducible repeat (first | refine blk_drewN ?_ _ | refine blk_drew ?_ | refine blk_alloc ?_ _)); exact BK143.out) hkp (fun hs_ => (fun e_ => (Kd.R_ne HO149.out BK143.out (by decide)) e_) hs_))
                                      have n2_ := Aside0.mk (Kd.R_mono (ok' := fun k_ => some k_ ≠ (v151 : Value).ownBlock) (Kd.R_keptB (HO146.out) hkp (fun k_ hk_ hs_ => (hk_) hs_)) (fun k_ hk_ => fun e_ => Or.elim (ho0.1 k_ e_.symm) (fun hs_ => hk_.2.1 hs_) (fun hn_ => Nat.not_le.2 hk_.2.2 hn_)))
                                      have n3_ := Aside0.mk (Kd.R_mono (ok' := fun k_ => some k_ ≠ (v145 : Value).ownBlock) ho0 (fun k_ hk_ => Or.elim hk_ (fun hs_ => fun e_ => (((HO146.out).1 k_ e_.symm)) hs_) (fun hn_ => (Kd.fresh' (Kd.R_lt (by (with_reducible repeat (first | apply Kd.R_alloc | apply Kd.R_drewN | apply Kd.R_drew)); exact HO146.out)) k_ hn_))))
                                      have n4_ := Aside0.mk (hb)
                                      clear BK119
                                      clear BK143
                                      clear HO146
                                      clear HB
                                      clear HO149
                                      have BK119 := n0_
                                      have BK143 := n1_
                                      have HO146 := n2_
                                      have HO152 := n3_
                                      have HB := n4_
                                      clear n0_ n1_ n2_ n3_ n4_
                                      (try clear hb)
                                      (try clear hkp)
                                      (try clear ho0)
                                      refine hK.out _ _ ⟨(blk_cell BK143.out 0).trans rfl, (blk_cell BK143.out 1).trans rfl, (blk_cell BK143.out 2).trans rfl, (blk_cell BK143.out 3).trans rfl⟩ (fun hHeld => ?_)
                                      clear hK K
                                      refine norm_ (a' := ?_) ?_ ?_
                                      rotate_left
                                      · show Act.put _ (some 44) _ = _
                                        simp only [Act.put, List.setIfInBounds_toArray, List.set_cons_zero, List.set_cons_succ, i64_w, i32_w]
                                        rfl
                                      exact norm_ (by first | (simp only [putAll, Act.put, List.setIfInBounds_toArray, List.set_cons_zero, List.set_cons_succ]; done) | (simp only [putAll, Act.put, List.setIfInBounds_toArray, List.set_cons_zero, List.set_cons_succ]; rfl)) (hJ4_5_8 (_, .slice Ao47 y147.length co47, _) _ ⟨hHeld, (by (with_reducible repeat (first | apply Kd.R_alloc | apply Kd.R_drewN | apply Kd.R_drew)); exact HO146.out), (by (with_reducible repeat (first | apply Kd.R_alloc | apply Kd.R_drewN | apply Kd.R_drew)); exact HO152.out), (by (with_reducible repeat (first | refine blk_drewN ?_ _ | refine blk_drew ?_ | refine blk_alloc ?_ _)); exact BK119.out), (by (with_reducible repeat (first | refine blk_drewN ?_ _ | refine blk_drew ?_ | refine blk_alloc ?_ _)); exact BK143.out), (by repeat (first | (with_reducible first | exact HB.out | apply below_alloc | apply pw_below_drewN | apply below_drew1 | refine below_set ?_ GE119.out | refine below_set ?_ GE143.out) | exact HB.out))⟩)
                                    · skip
                                      refine Kd.R_lit_step (Kd.int .u8) _ 5 ?hg (N := 50) ?hd (xs := ([(rd_T35 l0_1 x32_2).f3] : List Int)) (inner := [.int .u8 ((rd_T35 l0_1 x32_2).f3)]) (ok := fun _ => True) (okp := fun _ => True) ?hr ?hp (fun _ hk => hk) trivial (Below.refl _ _) (Nat.le_refl _) (by simp) ?_; (case hd => rfl); (case hg => rfl); (case hr => first | (go_simp; done) | (go_simp; rfl)); (case hp => exact (Reps.one (show Kd.M (Kd.int .u8) _ _ _ ((rd_T35 l0_1 x32_2).f3) [.int .u8 ((rd_T35 l0_1 x32_2).f3)] from rfl) (Reps.none _ _)))
                                      intro v157 w47 ho48 hb hg_ hnew_
                                      clear hg_ hnew_
                                      (first | rw [← Ny156.out] at ho48 | (simp only [Int.reduceToNat] at ho48; rw [← Ny156.out] at ho48))
                                      have n0_ := Aside0.mk (Kd.R_elder' (by (with_reducible repeat (first | apply Kd.R_alloc | apply Kd.R_drewN | apply Kd.R_drew)); exact HO146.out) (Kd.R_base ho48) hb)
                                      have n1_ := Aside0.mk (Kd.R_elder' (by (with_reducible repeat (first | apply Kd.R_alloc | apply Kd.R_drewN | apply Kd.R_drew)); exact HO149.out) (Kd.R_base ho48) hb)
                                      have n2_ := Aside0.mk (Kd.R_lower (Kd.R_new' (Kd.R_new' ho48 (Kd.R_lt (by (with_reducible repeat (first | apply Kd.R_alloc | apply Kd.R_drewN | apply Kd.R_drew)); exact HO146.out))) (Kd.R_lt (by (with_reducible repeat (first | apply Kd.R_alloc | apply Kd.R_drewN | apply Kd.R_drew)); exact HO149.out))) (below_size (by repeat (first | (with_reducible first | exact HB.out | apply below_alloc | apply pw_below_drewN | apply below_drew1 | refine below_set ?_ GE119.out | refine below_set ?_ GE143.out) | exact HB.out))))
                                      have n3_ := Aside0.mk (blk_below (g := gb119) (o := .cells #[.bool a0_0, .slice (some ad142) l0_1.length c0_1, .slice A0_2 l0_2.length c0_2] 26 (0, 0)) (by (with_reducible repeat (first | refine blk_drewN ?_ _ | refine blk_drew ?_ | refine blk_alloc ?_ _)); exact BK119.out) hb)
                                      have n4_ := Aside0.mk (blk_below (g := gb143) (o := .cells #[.int .i64 ((rd_T35 l0_1 x32_2).f0), .int .u32 ((rd_T35 l0_1 x32_2).f1), .int .u32 ((rd_T35 l0_1 x32_2).f2), .int .u8 ((rd_T35 l0_1 x32_2).f3)] 35 (0, 0)) (by (with_reducible repeat (first | refine blk_drewN ?_ _ | refine blk_drew ?_ | refine blk_alloc ?_ _)); exact BK143.out) hb)
                                      have n5_ := Aside0.mk (below_step (by repeat (first | (with_reducible first | exact HB.out | apply below_alloc | apply pw_below_drewN | apply below_drew1 | refine below_set ?_ GE119.out | refine below_set ?_ GE143.out) | exact HB.out)) hb)
                                      clear HO146
                                      clear HO149
                                      clear BK119
                                      clear BK143
                                      clear HB
                                      have HO146 := n0_
                                      have HO149 := n1_
                                      have HO158 := n2_
                                      have BK119 := n3_
                                      have BK143 := n4_
                                      have HB := n5_
                                      clear n0_ n1_ n2_ n3_ n4_ n5_
                                      clear hb ho48
                                      refine hK.out _ _ ⟨(blk_cell BK143.out 0).trans rfl, (blk_cell BK143.out 1).trans rfl, (blk_cell BK143.out 2).trans rfl, (blk_cell BK143.out 3).trans rfl⟩ (fun hHeld => ?_)
                                      clear hK K
                                      refine norm_ (a' := ?_) ?_ ?_
                                      rotate_left
                                      · show Act.put _ (some 50) _ = _
                                        simp only [Act.put, List.setIfInBounds_toArray, List.set_cons_zero, List.set_cons_succ, i64_w, i32_w]
                                        rfl
                                      exact norm_ (by first | (simp only [putAll, Act.put, List.setIfInBounds_toArray, List.set_cons_zero, List.set_cons_succ]; done) | (simp only [putAll, Act.put, List.setIfInBounds_toArray, List.set_cons_zero, List.set_cons_succ]; rfl)) (hJ4_5_14 (_, _, v157) _ ⟨hHeld, (by (with_reducible repeat (first | apply Kd.R_alloc | apply Kd.R_drewN | apply Kd.R_drew)); exact HO146.out), (by (with_reducible repeat (first | apply Kd.R_alloc | apply Kd.R_drewN | apply Kd.R_drew)); exact HO149.out), (by (with_reducible repeat (first | apply Kd.R_alloc | apply Kd.R_drewN | apply Kd.R_drew)); exact Kd.R_mono HO158.out (fun _ hk => ⟨hk.1.2, hk.2⟩)), (by (with_reducible repeat (first | refine blk_drewN ?_ _ | refine blk_drew ?_ | refine blk_alloc ?_ _)); exact BK119.out), (by (with_reducible repeat (first | refine blk_drewN ?_ _ | refine blk_drew ?_ | refine blk_alloc ?_ _)); exact BK143.out), (by repeat (first | (with_reducible first | exact HB.out | apply below_alloc | apply pw_below_drewN | apply below_drew1 | refine below_set ?_ GE119.out | refine below_set ?_ GE143.out) | exact HB.out))⟩)
                                · skip
                                  rintro ⟨v145, v148, v157⟩ w48 ⟨hS_, h0_, h1_, h2_, h3_, h4_, h5_⟩
                                  have n0_ : Aside0 (Kd.R (Kd.int .u8) 5 w48 w.heap.size (fun k_ => some k_ ≠ (v148 : Value).ownBlock ∧ some k_ ≠ (v157 : Value).ownBlock) v145 y144) := ⟨h0_⟩
                                  have n1_ : Aside0 (Kd.R (Kd.int .u8) 5 w48 w.heap.size (fun k_ => some k_ ≠ (v145 : Value).ownBlock ∧ some k_ ≠ (v157 : Value).ownBlock) v148 y147) := ⟨h1_⟩
                                  have n2_ : Aside0 (Kd.R (Kd.int .u8) 5 w48 w.heap.size (fun k_ => some k_ ≠ (v145 : Value).ownBlock ∧ some k_ ≠ (v148 : Value).ownBlock) v157 y156) := ⟨h2_⟩
                                  have n3_ : Aside0 (w48.heap[gb119]? = some (.cells #[.bool a0_0, .slice (some ad142) l0_1.length c0_1, .slice A0_2 l0_2.length c0_2] 26 (0, 0))) := ⟨h3_⟩
                                  have n4_ : Aside0 (w48.heap[gb143]? = some (.cells #[.int .i64 ((rd_T35 l0_1 x32_2).f0), .int .u32 ((rd_T35 l0_1 x32_2).f1), .int .u32 ((rd_T35 l0_1 x32_2).f2), .int .u8 ((rd_T35 l0_1 x32_2).f3)] 35 (0, 0))) := ⟨h4_⟩
                                  have n5_ : Aside0 (Below w.heap.size w w48) := ⟨h5_⟩
                                  clear HO_4
                                  clear BK119
                                  clear BK143
                                  clear HB
                                  clear h0_ h1_ h2_ h3_ h4_ h5_
                                  have HO146 := n0_
                                  have HO149 := n1_
                                  have HO158 := n2_
                                  have BK119 := n3_
                                  have BK143 := n4_
                                  have HB := n5_
                                  clear n0_ n1_ n2_ n3_ n4_ n5_
                                  have hHeld : w48.cell? ⟨gb143, 0, none⟩ = some (.int .i64 ((rd_T35 l0_1 x32_2).f0)) ∧ w48.cell? ⟨gb143, 1, none⟩ = some (.int .u32 ((rd_T35 l0_1 x32_2).f1)) ∧ w48.cell? ⟨gb143, 2, none⟩ = some (.int .u32 ((rd_T35 l0_1 x32_2).f2)) ∧ w48.cell? ⟨gb143, 3, none⟩ = some (.int .u8 ((rd_T35 l0_1 x32_2).f3)) := hS_
                                  obtain ⟨Ao49, co49, eo49⟩ := Kd.R_slice HO149.out
                                  (first | subst eo49 | (injection eo49 with f1_ f2_ f3_; have f4_ := f1_.symm; have f5_ := f3_.symm; clear f1_ f2_ f3_; subst f4_; subst f5_))
                                  refine norm_ (a' := ?_) ?_ ?_
                                  rotate_left
                                  · simp only [putAll, Act.put, List.setIfInBounds_toArray, List.set_cons_zero, List.set_cons_succ]
                                    rfl
                                  refine one_ (i := 8) (N := some 44) #[true, true, true, true, true, true, true, true, true, true, true, false, true, true, true, false, false] rfl rfl (one_of HT_.out (by kernel_rfl)) (by decide) (fun K hK => ?_)
                                  refine goes_ Try.func25 (by kernel_rfl) rfl #[.slice Ao49 y147.length co49, .int .u32 ((rd_T35 l0_1 x32_2).f1)] (by rfl) rfl rfl (by (try simp only [List.map_toArray, List.map_cons, List.map_nil]); first | done | rfl | (simp only [List.length_drop, List.length_take]; rfl)) ?_
                                  with_reducible refine (policy_four.calls (fun k_ => some k_ = (.slice Ao49 y147.length co49 : Value).ownBlock) (.slice Ao49 y147.length co49) y147 ((rd_T35 l0_1 x32_2).f1) t150 w _ ?side1 ?side2 A33.out).mono ?_
                                  (case side1 => repeat (first | (with_reducible first | exact HB.out | apply below_alloc | apply pw_below_drewN | apply below_drew1 | refine below_set ?_ GE119.out | refine below_set ?_ GE143.out) | exact HB.out))
                                  (case side2 => exact Kd.R_tight rfl HO149.out)
                                  rintro e w50 ⟨v151, rfl, ho0, hb, hkp⟩
                                  refine ⟨_, rfl, ?_⟩
                                  have n0_ := Aside0.mk (blk_kept (by (with_reducible repeat (first | refine blk_drewN ?_ _ | refine blk_drew ?_ | refine blk_alloc ?_ _)); exact BK119.out) hkp (fun hs_ => (fun e_ => (Kd.R_ne HO149.out BK119.out (by decide)) e_) hs_))
                                  have n1_ := Aside0.mk (blk_kept (by (with_reducible repeat (first | refine blk_drewN ?_ _ | refine blk_drew ?_ | refine blk_alloc ?_ _)); exact BK143.out) hkp (fun hs_ => (fun e_ => (Kd.R_ne HO149.out BK143.out (by decide)) e_) hs_))
                                  have n2_ := Aside0.mk (Kd.R_mono (ok' := fun k_ => some k_ ≠ (v157 : Value).ownBlock ∧ some k_ ≠ (v151 : Value).ownBlock) (Kd.R_keptB (HO146.out) hkp (fun k_ hk_ hs_ => (hk_.1) hs_)) (fun k_ hk_ => ⟨hk_.1.2, fun e_ => Or.elim (ho0.1 k_ e_.symm) (fun hs_ => hk_.2.1 hs_) (fun hn_ => Nat.not_le.2 hk_.2.2 hn_)⟩))
                                  have n3_ := Aside0.mk (Kd.R_mono (ok' := fun k_ => some k_ ≠ (v145 : Value).ownBlock ∧ some k_ ≠ (v151 : Value).ownBlock) (Kd.R_keptB (HO158.out) hkp (fun k_ hk_ hs_ => (hk_.2) hs_)) (fun k_ hk_ => ⟨hk_.1.1, fun e_ => Or.elim (ho0.1 k_ e_.symm) (fun hs_ => hk_.2.1 hs_) (fun hn_ => Nat.not_le.2 hk_.2.2 hn_)⟩))
                                  have n4_ := Aside0.mk (Kd.R_mono (ok' := fun k_ => some k_ ≠ (v145 : Value).ownBlock ∧ some k_ ≠ (v157 : Value).ownBlock) ho0 (fun k_ hk_ => ⟨Or.elim hk_ (fun hs_ => fun e_ => (((HO146.out).1 k_ e_.symm).1) hs_) (fun hn_ => (Kd.fresh' (Kd.R_lt (by (with_reducible repeat (first | apply Kd.R_alloc | apply Kd.R_drewN | apply Kd.R_drew)); exact HO146.out)) k_ hn_)), Or.elim hk_ (fun hs_ => fun e_ => (((HO158.out).1 k_ e_.symm).2) hs_) (fun hn_ => (Kd.fresh' (Kd.R_lt (by (with_reducible repeat (first | apply Kd.R_alloc | apply Kd.R_drewN | apply Kd.R_drew)); exact HO158.out)) k_ hn_))⟩))
                                  have n5_ := Aside0.mk (hb)
                                  clear BK119
                                  clear BK143
                                  clear HO146
                                  clear HO158
                                  clear HB
                                  clear HO149
                                  have BK119 := n0_
                                  have BK143 := n1_
                                  have HO146 := n2_
                                  have HO158 := n3_
                                  have HO152 := n4_
                                  have HB := n5_
                                  clear n0_ n1_ n2_ n3_ n4_ n5_
                                  (try clear hb)
                                  (try clear hkp)
                                  (try clear ho0)
                                  refine hK.out _ _ ⟨(blk_cell BK143.out 0).trans rfl, (blk_cell BK143.out 1).trans rfl, (blk_cell BK143.out 2).trans rfl, (blk_cell BK143.out 3).trans rfl⟩ (fun hHeld => ?_)
                                  clear hK K
                                  refine norm_ (a' := ?_) ?_ ?_
                                  rotate_left
                                  · show Act.put _ (some 44) _ = _
                                    simp only [Act.put, List.setIfInBounds_toArray, List.set_cons_zero, List.set_cons_succ, i64_w, i32_w]
                                    rfl
                                  exact norm_ (by first | (simp only [putAll, Act.put, List.setIfInBounds_toArray, List.set_cons_zero, List.set_cons_succ]; done) | (simp only [putAll, Act.put, List.setIfInBounds_toArray, List.set_cons_zero, List.set_cons_succ]; rfl)) (hJ4_5_8_14 (_, .slice Ao49 y147.length co49, _, v157) _ ⟨hHeld, (by (with_reducible repeat (first | apply Kd.R_alloc | apply Kd.R_drewN | apply Kd.R_drew)); exact Kd.R_mono HO146.out (fun _ hk => ⟨hk.2, hk.1⟩)), (by (with_reducible repeat (first | apply Kd.R_alloc | apply Kd.R_drewN | apply Kd.R_drew)); exact HO152.out), (by (with_reducible repeat (first | apply Kd.R_alloc | apply Kd.R_drewN | apply Kd.R_drew)); exact HO158.out), (by (with_reducible repeat (first | refine blk_drewN ?_ _ | refine blk_drew ?_ | refine blk_alloc ?_ _)); exact BK119.out), (by (with_reducible repeat (first | refine blk_drewN ?_ _ | refine blk_drew ?_ | refine blk_alloc ?_ _)); exact BK143.out), (by repeat (first | (with_reducible first | exact HB.out | apply below_alloc | apply pw_below_drewN | apply below_drew1 | refine below_set ?_ GE119.out | refine below_set ?_ GE143.out) | exact HB.out))⟩)
                              · skip
                                rintro ⟨v145, v148, v151⟩ w48 ⟨hS_, h0_, h1_, h2_, h3_, h4_⟩
                                have n0_ : Aside0 (Kd.R (Kd.int .u8) 5 w48 w.heap.size (fun k_ => some k_ ≠ (v151 : Value).ownBlock) v145 y144) := ⟨h0_⟩
                                have n1_ : Aside0 (Kd.R (Kd.int .u8) 5 w48 w.heap.size (fun k_ => some k_ ≠ (v145 : Value).ownBlock) v151 t150) := ⟨h1_⟩
                                have n2_ : Aside0 (w48.heap[gb119]? = some (.cells #[.bool a0_0, .slice (some ad142) l0_1.length c0_1, .slice A0_2 l0_2.length c0_2] 26 (0, 0))) := ⟨h2_⟩
                                have n3_ : Aside0 (w48.heap[gb143]? = some (.cells #[.int .i64 ((rd_T35 l0_1 x32_2).f0), .int .u32 ((rd_T35 l0_1 x32_2).f1), .int .u32 ((rd_T35 l0_1 x32_2).f2), .int .u8 ((rd_T35 l0_1 x32_2).f3)] 35 (0, 0))) := ⟨h3_⟩
                                have n4_ : Aside0 (Below w.heap.size w w48) := ⟨h4_⟩
                                clear HO_4
                                clear BK119
                                clear BK143
                                clear HB
                                clear h0_ h1_ h2_ h3_ h4_
                                have HO146 := n0_
                                have HO152 := n1_
                                have BK119 := n2_
                                have BK143 := n3_
                                have HB := n4_
                                clear n0_ n1_ n2_ n3_ n4_
                                have hHeld : w48.cell? ⟨gb143, 0, none⟩ = some (.int .i64 ((rd_T35 l0_1 x32_2).f0)) ∧ w48.cell? ⟨gb143, 1, none⟩ = some (.int .u32 ((rd_T35 l0_1 x32_2).f1)) ∧ w48.cell? ⟨gb143, 2, none⟩ = some (.int .u32 ((rd_T35 l0_1 x32_2).f2)) ∧ w48.cell? ⟨gb143, 3, none⟩ = some (.int .u8 ((rd_T35 l0_1 x32_2).f3)) := hS_
                                obtain ⟨Ao49, co49, eo49⟩ := Kd.R_slice HO152.out
                                (first | subst eo49 | (injection eo49 with f1_ f2_ f3_; have f4_ := f1_.symm; have f5_ := f3_.symm; clear f1_ f2_ f3_; subst f4_; subst f5_))
                                refine norm_ (a' := ?_) ?_ ?_
                                rotate_left
                                · simp only [putAll, Act.put, List.setIfInBounds_toArray, List.set_cons_zero, List.set_cons_succ]
                                  rfl
                                refine two_ (i := 11) (j := 14) (Ni := some 47) (Nj := some 50) #[true, true, true, true, true, true, true, true, true, true, true, true, true, true, false, false, false] #[true, true, true, true, true, true, true, true, true, true, true, false, true, true, true, false, false] rfl rfl rfl rfl (two_of HT_.out (by kernel_rfl)) (by decide) (by decide) (fun K hK => ?_) (fun K hK => ?_)
                                · skip
                                  refine goes_ Try.func25 (by kernel_rfl) rfl #[.slice Ao49 t150.length co49, .int .u32 ((rd_T35 l0_1 x32_2).f2)] (by rfl) rfl rfl (by (try simp only [List.map_toArray, List.map_cons, List.map_nil]); first | done | rfl | (simp only [List.length_drop, List.length_take]; rfl)) ?_
                                  with_reducible refine (policy_four.calls (fun k_ => some k_ = (.slice Ao49 t150.length co49 : Value).ownBlock) (.slice Ao49 t150.length co49) t150 ((rd_T35 l0_1 x32_2).f2) t153 w _ ?side1 ?side2 A34.out).mono ?_
                                  (case side1 => repeat (first | (with_reducible first | exact HB.out | apply below_alloc | apply pw_below_drewN | apply below_drew1 | refine below_set ?_ GE119.out | refine below_set ?_ GE143.out) | exact HB.out))
                                  (case side2 => exact Kd.R_tight rfl HO152.out)
                                  rintro e w50 ⟨v154, rfl, ho0, hb, hkp⟩
                                  refine ⟨_, rfl, ?_⟩
                                  have n0_ := Aside0.mk (blk_kept (by (with_reducible repeat (first | refine blk_drewN ?_ _ | refine blk_drew ?_ | refine blk_alloc ?_ _)); exact BK119.out) hkp (fun hs_ => (fun e_ => (Kd.R_ne HO152.out BK119.out (by decide)) e_) hs_))
                                  have n1_ := Aside0.mk (blk_kept (by (with_reducible repeat (first | refine blk_drewN ?_ _ | refine blk_drew ?_ | refine blk_alloc ?_ _)); exact BK143.out) hkp (fun hs_ => (fun e_ => (Kd.R_ne HO152.out BK143.out (by decide)) e_) hs_))
                                  have n2_ := Aside0.mk (Kd.R_mono (ok' := fun k_ => some k_ ≠ (v154 : Value).ownBlock) (Kd.R_keptB (HO146.out) hkp (fun k_ hk_ hs_ => (hk_) hs_)) (fun k_ hk_ => fun e_ => Or.elim (ho0.1 k_ e_.symm) (fun hs_ => hk_.2.1 hs_) (fun hn_ => Nat.not_le.2 hk_.2.2 hn_)))
                                  have n3_ := Aside0.mk (Kd.R_mono (ok' := fun k_ => some k_ ≠ (v145 : Value).ownBlock) ho0 (fun k_ hk_ => Or.elim hk_ (fun hs_ => fun e_ => (((HO146.out).1 k_ e_.symm)) hs_) (fun hn_ => (Kd.fresh' (Kd.R_lt (by (with_reducible repeat (first | apply Kd.R_alloc | apply Kd.R_drewN | apply Kd.R_drew)); exact HO146.out)) k_ hn_))))
                                  have n4_ := Aside0.mk (hb)
                                  clear BK119
                                  clear BK143
                                  clear HO146
                                  clear HB
                                  clear HO152
                                  have BK119 := n0_
                                  have BK143 := n1_
                                  have HO146 := n2_
                                  have HO155 := n3_
                                  have HB := n4_
                                  clear n0_ n1_ n2_ n3_ n4_
                                  (try clear hb)
                                  (try clear hkp)
                                  (try clear ho0)
                                  refine hK.out _ _ ⟨(blk_cell BK143.out 0).trans rfl, (blk_cell BK143.out 1).trans rfl, (blk_cell BK143.out 2).trans rfl, (blk_cell BK143.out 3).trans rfl⟩ (fun hHeld => ?_)
                                  clear hK K
                                  refine norm_ (a' := ?_) ?_ ?_
                                  rotate_left
                                  · show Act.put _ (some 47) _ = _
                                    simp only [Act.put, List.setIfInBounds_toArray, List.set_cons_zero, List.set_cons_succ, i64_w, i32_w]
                                    rfl
                                  exact norm_ (by first | (simp only [putAll, Act.put, List.setIfInBounds_toArray, List.set_cons_zero, List.set_cons_succ]; done) | (simp only [putAll, Act.put, List.setIfInBounds_toArray, List.set_cons_zero, List.set_cons_succ]; rfl)) (hJ4_5_8_11 (_, _, .slice Ao49 t150.length co49, v154) _ ⟨hHeld, (by (with_reducible repeat (first | apply Kd.R_alloc | apply Kd.R_drewN | apply Kd.R_drew)); exact HO146.out), (by (with_reducible repeat (first | apply Kd.R_alloc | apply Kd.R_drewN | apply Kd.R_drew)); exact HO155.out), (by (with_reducible repeat (first | refine blk_drewN ?_ _ | refine blk_drew ?_ | refine blk_alloc ?_ _)); exact BK119.out), (by (with_reducible repeat (first | refine blk_drewN ?_ _ | refine blk_drew ?_ | refine blk_alloc ?_ _)); exact BK143.out), (by repeat (first | (with_reducible first | exact HB.out | apply below_alloc | apply pw_below_drewN | apply below_drew1 | refine below_set ?_ GE119.out | refine below_set ?_ GE143.out) | exact HB.out))⟩)
                                · skip
                                  refine Kd.R_lit_step (Kd.int .u8) _ 5 ?hg (N := 50) ?hd (xs := ([(rd_T35 l0_1 x32_2).f3] : List Int)) (inner := [.int .u8 ((rd_T35 l0_1 x32_2).f3)]) (ok := fun _ => True) (okp := fun _ => True) ?hr ?hp (fun _ hk => hk) trivial (Below.refl _ _) (Nat.le_refl _) (by simp) ?_; (case hd => rfl); (case hg => rfl); (case hr => first | (go_simp; done) | (go_simp; rfl)); (case hp => exact (Reps.one (show Kd.M (Kd.int .u8) _ _ _ ((rd_T35 l0_1 x32_2).f3) [.int .u8 ((rd_T35 l0_1 x32_2).f3)] from rfl) (Reps.none _ _)))
                                  intro v157 w49 ho50 hb hg_ hnew_
                                  clear hg_ hnew_
                                  (first | rw [← Ny156.out] at ho50 | (simp only [Int.reduceToNat] at ho50; rw [← Ny156.out] at ho50))
                                  have n0_ := Aside0.mk (Kd.R_elder' (by (with_reducible repeat (first | apply Kd.R_alloc | apply Kd.R_drewN | apply Kd.R_drew)); exact HO146.out) (Kd.R_base ho50) hb)
                                  have n1_ := Aside0.mk (Kd.R_elder' (by (with_reducible repeat (first | apply Kd.R_alloc | apply Kd.R_drewN | apply Kd.R_drew)); exact HO152.out) (Kd.R_base ho50) hb)
                                  have n2_ := Aside0.mk (Kd.R_lower (Kd.R_new' (Kd.R_new' ho50 (Kd.R_lt (by (with_reducible repeat (first | apply Kd.R_alloc | apply Kd.R_drewN | apply Kd.R_drew)); exact HO146.out))) (Kd.R_lt (by (with_reducible repeat (first | apply Kd.R_alloc | apply Kd.R_drewN | apply Kd.R_drew)); exact HO152.out))) (below_size (by repeat (first | (with_reducible first | exact HB.out | apply below_alloc | apply pw_below_drewN | apply below_drew1 | refine below_set ?_ GE119.out | refine below_set ?_ GE143.out) | exact HB.out))))
                                  have n3_ := Aside0.mk (blk_below (g := gb119) (o := .cells #[.bool a0_0, .slice (some ad142) l0_1.length c0_1, .slice A0_2 l0_2.length c0_2] 26 (0, 0)) (by (with_reducible repeat (first | refine blk_drewN ?_ _ | refine blk_drew ?_ | refine blk_alloc ?_ _)); exact BK119.out) hb)
                                  have n4_ := Aside0.mk (blk_below (g := gb143) (o := .cells #[.int .i64 ((rd_T35 l0_1 x32_2).f0), .int .u32 ((rd_T35 l0_1 x32_2).f1), .int .u32 ((rd_T35 l0_1 x32_2).f2), .int .u8 ((rd_T35 l0_1 x32_2).f3)] 35 (0, 0)) (by (with_reducible repeat (first | refine blk_drewN ?_ _ | refine blk_drew ?_ | refine blk_alloc ?_ _)); exact BK143.out) hb)
                                  have n5_ := Aside0.mk (below_step (by repeat (first | (with_reducible first | exact HB.out | apply below_alloc | apply pw_below_drewN | apply below_drew1 | refine below_set ?_ GE119.out | refine below_set ?_ GE143.out) | exact HB.out)) hb)
                                  clear HO146
                                  clear HO152
                                  clear BK119
                                  clear BK143
                                  clear HB
                                  have HO146 := n0_
                                  have HO152 := n1_
                                  have HO158 := n2_
                                  have BK119 := n3_
                                  have BK143 := n4_
                                  have HB := n5_
                                  clear n0_ n1_ n2_ n3_ n4_ n5_
                                  clear hb ho50
                                  refine hK.out _ _ ⟨(blk_cell BK143.out 0).trans rfl, (blk_cell BK143.out 1).trans rfl, (blk_cell BK143.out 2).trans rfl, (blk_cell BK143.out 3).trans rfl⟩ (fun hHeld => ?_)
                                  clear hK K
                                  refine norm_ (a' := ?_) ?_ ?_
                                  rotate_left
                                  · show Act.put _ (some 50) _ = _
                                    simp only [Act.put, List.setIfInBounds_toArray, List.set_cons_zero, List.set_cons_succ, i64_w, i32_w]
                                    rfl
                                  exact norm_ (by first | (simp only [putAll, Act.put, List.setIfInBounds_toArray, List.set_cons_zero, List.set_cons_succ]; done) | (simp only [putAll, Act.put, List.setIfInBounds_toArray, List.set_cons_zero, List.set_cons_succ]; rfl)) (hJ4_5_8_14 (_, _, _, v157) _ ⟨hHeld, (by (with_reducible repeat (first | apply Kd.R_alloc | apply Kd.R_drewN | apply Kd.R_drew)); exact HO146.out), (by (with_reducible repeat (first | apply Kd.R_alloc | apply Kd.R_drewN | apply Kd.R_drew)); exact HO152.out), (by (with_reducible repeat (first | apply Kd.R_alloc | apply Kd.R_drewN | apply Kd.R_drew)); exact Kd.R_mono HO158.out (fun _ hk => ⟨hk.1.2, hk.2⟩)), (by (with_reducible repeat (first | refine blk_drewN ?_ _ | refine blk_drew ?_ | refine blk_alloc ?_ _)); exact BK119.out), (by (with_reducible repeat (first | refine blk_drewN ?_ _ | refine blk_drew ?_ | refine blk_alloc ?_ _)); exact BK143.out), (by repeat (first | (with_reducible first | exact HB.out | apply below_alloc | apply pw_below_drewN | apply below_drew1 | refine below_set ?_ GE119.out | refine below_set ?_ GE143.out) | exact HB.out))⟩)
                            · skip
                              rintro ⟨v145, v148, v151, v157⟩ w50 ⟨hS_, h0_, h1_, h2_, h3_, h4_, h5_⟩
                              have n0_ : Aside0 (Kd.R (Kd.int .u8) 5 w50 w.heap.size (fun k_ => some k_ ≠ (v151 : Value).ownBlock ∧ some k_ ≠ (v157 : Value).ownBlock) v145 y144) := ⟨h0_⟩
                              have n1_ : Aside0 (Kd.R (Kd.int .u8) 5 w50 w.heap.size (fun k_ => some k_ ≠ (v145 : Value).ownBlock ∧ some k_ ≠ (v157 : Value).ownBlock) v151 t150) := ⟨h1_⟩
                              have n2_ : Aside0 (Kd.R (Kd.int .u8) 5 w50 w.heap.size (fun k_ => some k_ ≠ (v145 : Value).ownBlock ∧ some k_ ≠ (v151 : Value).ownBlock) v157 y156) := ⟨h2_⟩
                              have n3_ : Aside0 (w50.heap[gb119]? = some (.cells #[.bool a0_0, .slice (some ad142) l0_1.length c0_1, .slice A0_2 l0_2.length c0_2] 26 (0, 0))) := ⟨h3_⟩
                              have n4_ : Aside0 (w50.heap[gb143]? = some (.cells #[.int .i64 ((rd_T35 l0_1 x32_2).f0), .int .u32 ((rd_T35 l0_1 x32_2).f1), .int .u32 ((rd_T35 l0_1 x32_2).f2), .int .u8 ((rd_T35 l0_1 x32_2).f3)] 35 (0, 0))) := ⟨h4_⟩
                              have n5_ : Aside0 (Below w.heap.size w w50) := ⟨h5_⟩
                              clear HO_4
                              clear BK119
                              clear BK143
                              clear HB
                              clear h0_ h1_ h2_ h3_ h4_ h5_
                              have HO146 := n0_
                              have HO152 := n1_
                              have HO158 := n2_
                              have BK119 := n3_
                              have BK143 := n4_
                              have HB := n5_
                              clear n0_ n1_ n2_ n3_ n4_ n5_
                              have hHeld : w50.cell? ⟨gb143, 0, none⟩ = some (.int .i64 ((rd_T35 l0_1 x32_2).f0)) ∧ w50.cell? ⟨gb143, 1, none⟩ = some (.int .u32 ((rd_T35 l0_1 x32_2).f1)) ∧ w50.cell? ⟨gb143, 2, none⟩ = some (.int .u32 ((rd_T35 l0_1 x32_2).f2)) ∧ w50.cell? ⟨gb143, 3, none⟩ = some (.int .u8 ((rd_T35 l0_1 x32_2).f3)) := hS_
                              obtain ⟨Ao51, co51, eo51⟩ := Kd.R_slice HO152.out
                              (first | subst eo51 | (injection eo51 with f1_ f2_ f3_; have f4_ := f1_.symm; have f5_ := f3_.symm; clear f1_ f2_ f3_; subst f4_; subst f5_))
                              refine norm_ (a' := ?_) ?_ ?_
                              rotate_left
                              · simp only [putAll, Act.put, List.setIfInBounds_toArray, List.set_cons_zero, List.set_cons_succ]
                                rfl
                              refine one_ (i := 11) (N := some 47) #[true, true, true, true, true, true, true, true, true, true, true, true, true, true, true, false, false] rfl rfl (one_of HT_.out (by kernel_rfl)) (by decide) (fun K hK => ?_)
                              refine goes_ Try.func25 (by kernel_rfl) rfl #[.slice Ao51 t150.length co51, .int .u32 ((rd_T35 l0_1 x32_2).f2)] (by rfl) rfl rfl (by (try simp only [List.map_toArray, List.map_cons, List.map_nil]); first | done | rfl | (simp only [List.length_drop, List.length_take]; rfl)) ?_
                              with_reducible refine (policy_four.calls (fun k_ => some k_ = (.slice Ao51 t150.length co51 : Value).ownBlock) (.slice Ao51 t150.length co51) t150 ((rd_T35 l0_1 x32_2).f2) t153 w _ ?side1 ?side2 A34.out).mono ?_
                              (case side1 => repeat (first | (with_reducible first | exact HB.out | apply below_alloc | apply pw_below_drewN | apply below_drew1 | refine below_set ?_ GE119.out | refine below_set ?_ GE143.out) | exact HB.out))
                              (case side2 => exact Kd.R_tight rfl HO152.out)
                              rintro e w52 ⟨v154, rfl, ho0, hb, hkp⟩
                              refine ⟨_, rfl, ?_⟩
                              have n0_ := Aside0.mk (blk_kept (by (with_reducible repeat (first | refine blk_drewN ?_ _ | refine blk_drew ?_ | refine blk_alloc ?_ _)); exact BK119.out) hkp (fun hs_ => (fun e_ => (Kd.R_ne HO152.out BK119.out (by decide)) e_) hs_))
                              have n1_ := Aside0.mk (blk_kept (by (with_reducible repeat (first | refine blk_drewN ?_ _ | refine blk_drew ?_ | refine blk_alloc ?_ _)); exact BK143.out) hkp (fun hs_ => (fun e_ => (Kd.R_ne HO152.out BK143.out (by decide)) e_) hs_))
                              have n2_ := Aside0.mk (Kd.R_mono (ok' := fun k_ => some k_ ≠ (v157 : Value).ownBlock ∧ some k_ ≠ (v154 : Value).ownBlock) (Kd.R_keptB (HO146.out) hkp (fun k_ hk_ hs_ => (hk_.1) hs_)) (fun k_ hk_ => ⟨hk_.1.2, fun e_ => Or.elim (ho0.1 k_ e_.symm) (fun hs_ => hk_.2.1 hs_) (fun hn_ => Nat.not_le.2 hk_.2.2 hn_)⟩))
                              have n3_ := Aside0.mk (Kd.R_mono (ok' := fun k_ => some k_ ≠ (v145 : Value).ownBlock ∧ some k_ ≠ (v154 : Value).ownBlock) (Kd.R_keptB (HO158.out) hkp (fun k_ hk_ hs_ => (hk_.2) hs_)) (fun k_ hk_ => ⟨hk_.1.1, fun e_ => Or.elim (ho0.1 k_ e_.symm) (fun hs_ => hk_.2.1 hs_) (fun hn_ => Nat.not_le.2 hk_.2.2 hn_)⟩))
                              have n4_ := Aside0.mk (Kd.R_mono (ok' := fun k_ => some k_ ≠ (v145 : Value).ownBlock ∧ some k_ ≠ (v157 : Value).ownBlock) ho0 (fun k_ hk_ => ⟨Or.elim hk_ (fun hs_ => fun e_ => (((HO146.out).1 k_ e_.symm).1) hs_) (fun hn_ => (Kd.fresh' (Kd.R_lt (by (with_reducible repeat (first | apply Kd.R_alloc | apply Kd.R_drewN | apply Kd.R_drew)); exact HO146.out)) k_ hn_)), Or.elim hk_ (fun hs_ => fun e_ => (((HO158.out).1 k_ e_.symm).2) hs_) (fun hn_ => (Kd.fresh' (Kd.R_lt (by (with_reducible repeat (first | apply Kd.R_alloc | apply Kd.R_drewN | apply Kd.R_drew)); exact HO158.out)) k_ hn_))⟩))
                              have n5_ := Aside0.mk (hb)
                              clear BK119
                              clear BK143
                              clear HO146
                              clear HO158
                              clear HB
                              clear HO152
                              have BK119 := n0_
                              have BK143 := n1_
                              have HO146 := n2_
                              have HO158 := n3_
                              have HO155 := n4_
                              have HB := n5_
                              clear n0_ n1_ n2_ n3_ n4_ n5_
                              (try clear hb)
                              (try clear hkp)
                              (try clear ho0)
                              refine hK.out _ _ ⟨(blk_cell BK143.out 0).trans rfl, (blk_cell BK143.out 1).trans rfl, (blk_cell BK143.out 2).trans rfl, (blk_cell BK143.out 3).trans rfl⟩ (fun hHeld => ?_)
                              clear hK K
                              refine norm_ (a' := ?_) ?_ ?_
                              rotate_left
                              · show Act.put _ (some 47) _ = _
                                simp only [Act.put, List.setIfInBounds_toArray, List.set_cons_zero, List.set_cons_succ, i64_w, i32_w]
                                rfl
                              exact norm_ (by first | (simp only [putAll, Act.put, List.setIfInBounds_toArray, List.set_cons_zero, List.set_cons_succ]; done) | (simp only [putAll, Act.put, List.setIfInBounds_toArray, List.set_cons_zero, List.set_cons_succ]; rfl)) (hJ4_5_8_11_14 (_, _, .slice Ao51 t150.length co51, v154, v157) _ ⟨hHeld, (by (with_reducible repeat (first | apply Kd.R_alloc | apply Kd.R_drewN | apply Kd.R_drew)); exact Kd.R_mono HO146.out (fun _ hk => ⟨hk.2, hk.1⟩)), (by (with_reducible repeat (first | apply Kd.R_alloc | apply Kd.R_drewN | apply Kd.R_drew)); exact HO155.out), (by (with_reducible repeat (first | apply Kd.R_alloc | apply Kd.R_drewN | apply Kd.R_drew)); exact HO158.out), (by (with_reducible repeat (first | refine blk_drewN ?_ _ | refine blk_drew ?_ | refine blk_alloc ?_ _)); exact BK119.out), (by (with_reducible repeat (first | refine blk_drewN ?_ _ | refine blk_drew ?_ | refine blk_alloc ?_ _)); exact BK143.out), (by repeat (first | (with_reducible first | exact HB.out | apply below_alloc | apply pw_below_drewN | apply below_drew1 | refine below_set ?_ GE119.out | refine below_set ?_ GE143.out) | exact HB.out))⟩)
                          · skip
                            rintro ⟨v145, v148, v151, v154⟩ w50 ⟨hS_, h0_, h1_, h2_, h3_, h4_⟩
                            have n0_ : Aside0 (Kd.R (Kd.int .u8) 5 w50 w.heap.size (fun k_ => some k_ ≠ (v154 : Value).ownBlock) v145 y144) := ⟨h0_⟩
                            have n1_ : Aside0 (Kd.R (Kd.int .u8) 5 w50 w.heap.size (fun k_ => some k_ ≠ (v145 : Value).ownBlock) v154 t153) := ⟨h1_⟩
                            have n2_ : Aside0 (w50.heap[gb119]? = some (.cells #[.bool a0_0, .slice (some ad142) l0_1.length c0_1, .slice A0_2 l0_2.length c0_2] 26 (0, 0))) := ⟨h2_⟩
                            have n3_ : Aside0 (w50.heap[gb143]? = some (.cells #[.int .i64 ((rd_T35 l0_1 x32_2).f0), .int .u32 ((rd_T35 l0_1 x32_2).f1), .int .u32 ((rd_T35 l0_1 x32_2).f2), .int .u8 ((rd_T35 l0_1 x32_2).f3)] 35 (0, 0))) := ⟨h3_⟩
                            have n4_ : Aside0 (Below w.heap.size w w50) := ⟨h4_⟩
                            clear HO_4
                            clear BK119
                            clear BK143
                            clear HB
                            clear h0_ h1_ h2_ h3_ h4_
                            have HO146 := n0_
                            have HO155 := n1_
                            have BK119 := n2_
                            have BK143 := n3_
                            have HB := n4_
                            clear n0_ n1_ n2_ n3_ n4_
                            have hHeld : w50.cell? ⟨gb143, 0, none⟩ = some (.int .i64 ((rd_T35 l0_1 x32_2).f0)) ∧ w50.cell? ⟨gb143, 1, none⟩ = some (.int .u32 ((rd_T35 l0_1 x32_2).f1)) ∧ w50.cell? ⟨gb143, 2, none⟩ = some (.int .u32 ((rd_T35 l0_1 x32_2).f2)) ∧ w50.cell? ⟨gb143, 3, none⟩ = some (.int .u8 ((rd_T35 l0_1 x32_2).f3)) := hS_
                            refine norm_ (a' := ?_) ?_ ?_
                            rotate_left
                            · simp only [putAll, Act.put, List.setIfInBounds_toArray, List.set_cons_zero, List.set_cons_succ]
                              rfl
                            refine one_ (i := 14) (N := some 50) #[true, true, true, true, true, true, true, true, true, true, true, true, true, true, true, false, false] rfl rfl (one_of HT_.out (by kernel_rfl)) (by decide) (fun K hK => ?_)
                            refine Kd.R_lit_step (Kd.int .u8) _ 5 ?hg (N := 50) ?hd (xs := ([(rd_T35 l0_1 x32_2).f3] : List Int)) (inner := [.int .u8 ((rd_T35 l0_1 x32_2).f3)]) (ok := fun _ => True) (okp := fun _ => True) ?hr ?hp (fun _ hk => hk) trivial (Below.refl _ _) (Nat.le_refl _) (by simp) ?_; (case hd => rfl); (case hg => rfl); (case hr => first | (go_simp; done) | (go_simp; rfl)); (case hp => exact (Reps.one (show Kd.M (Kd.int .u8) _ _ _ ((rd_T35 l0_1 x32_2).f3) [.int .u8 ((rd_T35 l0_1 x32_2).f3)] from rfl) (Reps.none _ _)))
                            intro v157 w51 ho52 hb hg_ hnew_
                            clear hg_ hnew_
                            (first | rw [← Ny156.out] at ho52 | (simp only [Int.reduceToNat] at ho52; rw [← Ny156.out] at ho52))
                            have n0_ := Aside0.mk (Kd.R_elder' (by (with_reducible repeat (first | apply Kd.R_alloc | apply Kd.R_drewN | apply Kd.R_drew)); exact HO146.out) (Kd.R_base ho52) hb)
                            have n1_ := Aside0.mk (Kd.R_elder' (by (with_reducible repeat (first | apply Kd.R_alloc | apply Kd.R_drewN | apply Kd.R_drew)); exact HO155.out) (Kd.R_base ho52) hb)
                            have n2_ := Aside0.mk (Kd.R_lower (Kd.R_new' (Kd.R_new' ho52 (Kd.R_lt (by (with_reducible repeat (first | apply Kd.R_alloc | apply Kd.R_drewN | apply Kd.R_drew)); exact HO146.out))) (Kd.R_lt (by (with_reducible repeat (first | apply Kd.R_alloc | apply Kd.R_drewN | apply Kd.R_drew)); exact HO155.out))) (below_size (by repeat (first | (with_reducible first | exact HB.out | apply below_alloc | apply pw_below_drewN | apply below_drew1 | refine below_set ?_ GE119.out | refine below_set ?_ GE143.out) | exact HB.out))))
                            have n3_ := Aside0.mk (blk_below (g := gb119) (o := .cells #[.bool a0_0, .slice (some ad142) l0_1.length c0_1, .slice A0_2 l0_2.length c0_2] 26 (0, 0)) (by (with_reducible repeat (first | refine blk_drewN ?_ _ | refine blk_drew ?_ | refine blk_alloc ?_ _)); exact BK119.out) hb)
                            have n4_ := Aside0.mk (blk_below (g := gb143) (o := .cells #[.int .i64 ((rd_T35 l0_1 x32_2).f0), .int .u32 ((rd_T35 l0_1 x32_2).f1), .int .u32 ((rd_T35 l0_1 x32_2).f2), .int .u8 ((rd_T35 l0_1 x32_2).f3)] 35 (0, 0)) (by (with_reducible repeat (first | refine blk_drewN ?_ _ | refine blk_drew ?_ | refine blk_alloc ?_ _)); exact BK143.out) hb)
                            have n5_ := Aside0.mk (below_step (by repeat (first | (with_reducible first | exact HB.out | apply below_alloc | apply pw_below_drewN | apply below_drew1 | refine below_set ?_ GE119.out | refine below_set ?_ GE143.out) | exact HB.out)) hb)
                            clear HO146
                            clear HO155
                            clear BK119
                            clear BK143
                            clear HB
                            have HO146 := n0_
                            have HO155 := n1_
                            have HO158 := n2_
                            have BK119 := n3_
                            have BK143 := n4_
                            have HB := n5_
                            clear n0_ n1_ n2_ n3_ n4_ n5_
                            clear hb ho52
                            refine hK.out _ _ ⟨(blk_cell BK143.out 0).trans rfl, (blk_cell BK143.out 1).trans rfl, (blk_cell BK143.out 2).trans rfl, (blk_cell BK143.out 3).trans rfl⟩ (fun hHeld => ?_)
                            clear hK K
                            refine norm_ (a' := ?_) ?_ ?_
                            rotate_left
                            · show Act.put _ (some 50) _ = _
                              simp only [Act.put, List.setIfInBounds_toArray, List.set_cons_zero, List.set_cons_succ, i64_w, i32_w]
                              rfl
                            exact norm_ (by first | (simp only [putAll, Act.put, List.setIfInBounds_toArray, List.set_cons_zero, List.set_cons_succ]; done) | (simp only [putAll, Act.put, List.setIfInBounds_toArray, List.set_cons_zero, List.set_cons_succ]; rfl)) (hJ4_5_8_11_14 (_, _, _, v154, v157) _ ⟨hHeld, (by (with_reducible repeat (first | apply Kd.R_alloc | apply Kd.R_drewN | apply Kd.R_drew)); exact HO146.out), (by (with_reducible repeat (first | apply Kd.R_alloc | apply Kd.R_drewN | apply Kd.R_drew)); exact HO155.out), (by (with_reducible repeat (first | apply Kd.R_alloc | apply Kd.R_drewN | apply Kd.R_drew)); exact Kd.R_mono HO158.out (fun _ hk => ⟨hk.1.2, hk.2⟩)), (by (with_reducible repeat (first | refine blk_drewN ?_ _ | refine blk_drew ?_ | refine blk_alloc ?_ _)); exact BK119.out), (by (with_reducible repeat (first | refine blk_drewN ?_ _ | refine blk_drew ?_ | refine blk_alloc ?_ _)); exact BK143.out), (by repeat (first | (with_reducible first | exact HB.out | apply below_alloc | apply pw_below_drewN | apply below_drew1 | refine below_set ?_ GE119.out | refine below_set ?_ GE143.out) | exact HB.out))⟩)
                        rintro ⟨v145, v148, v151, v154, v157⟩ w52 ⟨hS_, h0_, h1_, h2_, h3_, h4_, h5_⟩
                        have n0_ : Aside0 (Kd.R (Kd.int .u8) 5 w52 w.heap.size (fun k_ => some k_ ≠ (v154 : Value).ownBlock ∧ some k_ ≠ (v157 : Value).ownBlock) v145 y144) := ⟨h0_⟩
                        have n1_ : Aside0 (Kd.R (Kd.int .u8) 5 w52 w.heap.size (fun k_ => some k_ ≠ (v145 : Value).ownBlock ∧ some k_ ≠ (v157 : Value).ownBlock) v154 t153) := ⟨h1_⟩
                        have n2_ : Aside0 (Kd.R (Kd.int .u8) 5 w52 w.heap.size (fun k_ => some k_ ≠ (v145 : Value).ownBlock ∧ some k_ ≠ (v154 : Value).ownBlock) v157 y156) := ⟨h2_⟩
                        have n3_ : Aside0 (w52.heap[gb119]? = some (.cells #[.bool a0_0, .slice (some ad142) l0_1.length c0_1, .slice A0_2 l0_2.length c0_2] 26 (0, 0))) := ⟨h3_⟩
                        have n4_ : Aside0 (w52.heap[gb143]? = some (.cells #[.int .i64 ((rd_T35 l0_1 x32_2).f0), .int .u32 ((rd_T35 l0_1 x32_2).f1), .int .u32 ((rd_T35 l0_1 x32_2).f2), .int .u8 ((rd_T35 l0_1 x32_2).f3)] 35 (0, 0))) := ⟨h4_⟩
                        have n5_ : Aside0 (Below w.heap.size w w52) := ⟨h5_⟩
                        clear HO_4
                        clear BK119
                        clear BK143
                        clear HB
                        clear h0_ h1_ h2_ h3_ h4_ h5_
                        have HO146 := n0_
                        have HO155 := n1_
                        have HO158 := n2_
                        have BK119 := n3_
                        have BK143 := n4_
                        have HB := n5_
                        clear n0_ n1_ n2_ n3_ n4_ n5_
                        have hHeld : w52.cell? ⟨gb143, 0, none⟩ = some (.int .i64 ((rd_T35 l0_1 x32_2).f0)) ∧ w52.cell? ⟨gb143, 1, none⟩ = some (.int .u32 ((rd_T35 l0_1 x32_2).f1)) ∧ w52.cell? ⟨gb143, 2, none⟩ = some (.int .u32 ((rd_T35 l0_1 x32_2).f2)) ∧ w52.cell? ⟨gb143, 3, none⟩ = some (.int .u8 ((rd_T35 l0_1 x32_2).f3)) := hS_
                        obtain ⟨Ao54, co54, eo54⟩ := Kd.R_slice HO158.out
                        (first | subst eo54 | (injection eo54 with f1_ f2_ f3_; have f4_ := f1_.symm; have f5_ := f3_.symm; clear f1_ f2_ f3_; subst f4_; subst f5_))
                        refine norm_ (a' := ?_) ?_ ?_
                        rotate_left
                        · simp only [putAll, Act.put, List.setIfInBounds_toArray, List.set_cons_zero, List.set_cons_succ]
                          rfl
                        refine one_ (i := 15) (N := some 51) #[true, true, true, true, true, true, true, true, true, true, true, true, true, true, true, true, false] rfl rfl (one_of HT_.out (by kernel_rfl)) (by decide) (fun K hK => ?_)
                        refine Kd.R_append_rows_step (Kd.int .u8) (w0 := w) w.heap.size (by rfl) (.tmp 47) (.tmp 50) 30 5 (.int .u8 0) 1 rfl Try.underlying30 info5 rfl (by decide) (by omega) v154 t153 y156 _ _ _ (fun k_ => some k_ ≠ (v145 : Value).ownBlock ∧ some k_ ≠ (.slice Ao54 y156.length co54 : Value).ownBlock) (fun _ => False) rfl rfl ?aO ?aR (fun _ _ h => h) (fun _ h => h.elim) ?aF ?aB ?aS ?aL ?_
                        (case aR => repeat (first | exact (Kd.R_reads' HO158.out).2.2 | (with_reducible refine Kd.C_alloc ?_ _) | (with_reducible refine Kd.C_drewN ?_ _) | (with_reducible refine Kd.C_drew ?_)))
                        (case aB => exact (by repeat (first | (with_reducible first | exact HB.out | apply below_alloc | apply pw_below_drewN | apply below_drew1 | refine below_set ?_ GE119.out | refine below_set ?_ GE143.out) | exact HB.out)))
                        (case aF => exact (fun k_ hk => ⟨Kd.fresh' (Kd.R_lt (by (with_reducible repeat (first | apply Kd.R_alloc | apply Kd.R_drewN | apply Kd.R_drew)); exact HO146.out)) k_ hk, Kd.fresh' (Kd.R_lt (by (with_reducible repeat (first | apply Kd.R_alloc | apply Kd.R_drewN | apply Kd.R_drew)); exact HO158.out)) k_ hk⟩))
                        (case aO => exact (by (with_reducible repeat (first | apply Kd.R_alloc | apply Kd.R_drewN | apply Kd.R_drew)); exact HO155.out))
                        (case aS => exact (below_size (by repeat (first | (with_reducible first | exact HB.out | apply below_alloc | apply pw_below_drewN | apply below_drew1 | refine below_set ?_ GE119.out | refine below_set ?_ GE143.out) | exact HB.out))))
                        (case aL => have := LMc35.out; omega)
                        intro v160 w53 ho hb hg hat
                        rw [← Ny159.out] at ho
                        have n0_ := Aside0.mk (blk_grown (g := gb119) (o := .cells #[.bool a0_0, .slice (some ad142) l0_1.length c0_1, .slice A0_2 l0_2.length c0_2] 26 (0, 0)) (by (with_reducible repeat (first | refine blk_drewN ?_ _ | refine blk_drew ?_ | refine blk_alloc ?_ _)); exact BK119.out) hg (Kd.R_ne HO155.out BK119.out (by decide)))
                        have n1_ := Aside0.mk (blk_grown (g := gb143) (o := .cells #[.int .i64 ((rd_T35 l0_1 x32_2).f0), .int .u32 ((rd_T35 l0_1 x32_2).f1), .int .u32 ((rd_T35 l0_1 x32_2).f2), .int .u8 ((rd_T35 l0_1 x32_2).f3)] 35 (0, 0)) (by (with_reducible repeat (first | refine blk_drewN ?_ _ | refine blk_drew ?_ | refine blk_alloc ?_ _)); exact BK143.out) hg (Kd.R_ne HO155.out BK143.out (by decide)))
                        have n2_ := Aside0.mk (Kd.R_after (ok := (fun k_ => some k_ ≠ (.slice Ao54 y156.length co54 : Value).ownBlock)) (by (with_reducible repeat (first | apply Kd.R_alloc | apply Kd.R_drewN | apply Kd.R_drew)); exact Kd.R_mono HO146.out (fun _ hk => ⟨hk.2, hk.1⟩)) hg hat)
                        have n3_ := Aside0.mk (Kd.R_after (ok := (fun k_ => some k_ ≠ (v145 : Value).ownBlock)) (by (with_reducible repeat (first | apply Kd.R_alloc | apply Kd.R_drewN | apply Kd.R_drew)); exact HO158.out) hg hat)
                        have n4_ := Aside0.mk (hb)
                        have n5_ := Aside0.mk (ho)
                        clear BK119
                        clear BK143
                        clear HO146
                        clear HO158
                        clear HB
                        clear HO155
                        have BK119 := n0_
                        have BK143 := n1_
                        have HO146 := n2_
                        have HO158 := n3_
                        have HB := n4_
                        have HO161 := n5_
                        clear n0_ n1_ n2_ n3_ n4_ n5_
                        clear ho hb hg hat
                        refine hK.out _ _ ⟨(blk_cell BK143.out 0).trans rfl, (blk_cell BK143.out 1).trans rfl, (blk_cell BK143.out 2).trans rfl, (blk_cell BK143.out 3).trans rfl⟩ (fun hHeld => ?_)
                        clear hK K
                        refine norm_ (a' := ?_) ?_ ?_
                        rotate_left
                        · show Act.put _ (some 51) _ = _
                          simp only [Act.put, List.setIfInBounds_toArray, List.set_cons_zero, List.set_cons_succ, i64_w, i32_w]
                          rfl
                        refine pure_ (i := 16) (N := some 4) (v := ?_) (a' := ?_) #[true, true, true, true, true, true, true, true, true, true, true, true, true, true, true, true, true] rfl rfl (any_of HT_.out (by kernel_rfl)) (fun _ _ _ h => h) (Or.inl ⟨by rfl, ?_⟩) ?_ ?_
                        rotate_left
                        · intro w'
                          go_simp
                          with_reducible rfl
                        rotate_left
                        · simp only [Act.put, List.setIfInBounds_toArray, List.set_cons_zero, List.set_cons_succ, i64_w, i32_w]
                          rfl
                        refine done_ (done_of HT_.out (by kernel_rfl)) ?_
                        try go_wp2
                        go_roundg k2
                        case measure => have := HJ3.out; have := HK2.out; omega
                        case rel => exact ⟨(y159), (wrap64 (x32_2 + 1)), (by first | rfl | (simp; done) | (simp [*]; done)), H', ⟨by have := HJ3.out; have := HK2.out; omega⟩, ⟨by (with_reducible repeat (first | apply Kd.R_alloc | apply Kd.R_drewN | apply Kd.R_drew)); exact Kd.R_mono HO161.out (fun _ hk => trivial)⟩, ⟨by (with_reducible repeat (first | refine blk_drewN ?_ _ | refine blk_drew ?_ | refine blk_alloc ?_ _)); exact BK119.out⟩, ⟨by repeat (first | (with_reducible first | exact HB.out | apply below_alloc | apply pw_below_drewN | apply below_drew1 | refine below_set ?_ GE119.out | refine below_set ?_ GE143.out) | exact HB.out)⟩⟩
                      · rw [if_neg c35] at H
                        exact absurd H (by simp)
                    · rw [if_neg c32] at H
                      exact absurd H (by simp)
                  · rw [if_neg c31] at H
                    exact absurd H (by simp)
                · rw [if_neg c30] at H
                  exact absurd H (by simp)
              · rw [if_neg c29] at H
                have c29b0 : decide (x32_2 < (l0_1.length : Int)) = false := decide_eq_false c29
                clear c29
                obtain ⟨y162, hy162⟩ : ∃ y_ : List Int, y_ = (([((l0_2.length : Int)) % 256] : List Int)) := ⟨_, rfl⟩
                replace H : (if x4_2.length + y162.length < 140737488355328 then (policy_Put.l1 k2 (x4_2 ++ y162) l0_2 (l0_2.length : Int) 0) else (none)) = some (r1, r2) := by first | (rw [hy162]; with_reducible exact H) | (have H2_ := (Option.bind_some _ _).symm.trans H; rw [hy162]; with_reducible exact H2_) | (have H2_ := (Option.bind_some _ _).symm.trans H; with_reducible exact H2_) | with_reducible exact H | (rw [hy162]; exact H) | exact H
                have Ny162 := Aside0.mk hy162
                clear hy162
                by_cases c55 : x4_2.length + y162.length < 140737488355328
                · rw [if_pos c55] at H
                  have LMc55 := Aside0.mk c55
                  clear c55
                  obtain ⟨y165, hy165⟩ : ∃ y_ : List Int, y_ = (x4_2 ++ y162) := ⟨_, rfl⟩
                  replace H : (policy_Put.l1 k2 y165 l0_2 (l0_2.length : Int) 0) = some (r1, r2) := by first | (rw [hy165]; with_reducible exact H) | (have H2_ := (Option.bind_some _ _).symm.trans H; rw [hy165]; with_reducible exact H2_) | (have H2_ := (Option.bind_some _ _).symm.trans H; with_reducible exact H2_) | with_reducible exact H | (rw [hy165]; exact H) | exact H
                  have Ny165 := Aside0.mk hy165
                  clear hy165
                  have H' := Aside0.mk H
                  clear H
                  have hcz56_0 : wr.cell? ⟨gb119, 0, none⟩ = some (.bool a0_0) := (blk_cell BK119.out 0).trans rfl
                  have hcz56_1 : wr.cell? ⟨gb119, 1, none⟩ = some (.slice A0_1 l0_1.length c0_1) := (blk_cell BK119.out 1).trans rfl
                  have hcz56_2 : wr.cell? ⟨gb119, 2, none⟩ = some (.slice A0_2 l0_2.length c0_2) := (blk_cell BK119.out 2).trans rfl
                  have hfz56_0 := blk_frozen BK119.out 0
                  have hfz56_1 := blk_frozen BK119.out 1
                  have hfz56_2 := blk_frozen BK119.out 2
                  go_wp2_with (first | ((with_reducible refine gate_dst (N := 58) rfl ?_); refine Kd.R_lit (Kd.int .u8) _ 5 ?hg (N := 58) ?hd (xs := ([((l0_2.length : Int)) % 256] : List Int)) (inner := [.int .u8 (((l0_2.length : Int)) % 256)]) (ok := fun _ => True) (okp := fun _ => True) ?hr ?hp (fun _ hk => hk) trivial (Below.refl _ _) (Nat.le_refl _) (by simp) ?_; (case hd => rfl); (case hg => rfl); (case hr => first | (go_simp; done) | (go_simp; rfl)); (case hp => exact (Reps.one (show Kd.M (Kd.int .u8) _ _ _ (((l0_2.length : Int)) % 256) [.int .u8 (((l0_2.length : Int)) % 256)] from rfl) (Reps.none _ _))); intro v163 w57 ho58 hb hg_ hnew_; clear hg_ hnew_; (first | rw [← Ny162.out] at ho58 | (simp only [Int.reduceToNat] at ho58; rw [← Ny162.out] at ho58)); have n0_ := Aside0.mk (Kd.R_elder' (by (with_reducible repeat (first | apply Kd.R_alloc | apply Kd.R_drewN | apply Kd.R_drew)); exact HO_4.out) (Kd.R_base ho58) hb); have n1_ := Aside0.mk (Kd.R_lower (Kd.R_new' ho58 (Kd.R_lt (by (with_reducible repeat (first | apply Kd.R_alloc | apply Kd.R_drewN | apply Kd.R_drew)); exact HO_4.out))) (below_size (by repeat (first | (with_reducible first | exact HB.out | apply below_alloc | apply pw_below_drewN | apply below_drew1 | refine below_set ?_ GE119.out) | exact HB.out)))); have n2_ := Aside0.mk (blk_below (g := gb119) (o := .cells #[.bool a0_0, .slice A0_1 l0_1.length c0_1, .slice A0_2 l0_2.length c0_2] 26 (0, 0)) (by (with_reducible repeat (first | refine blk_drewN ?_ _ | refine blk_drew ?_ | refine blk_alloc ?_ _)); exact BK119.out) hb); have n3_ := Aside0.mk (below_step (by repeat (first | (with_reducible first | exact HB.out | apply below_alloc | apply pw_below_drewN | apply below_drew1 | refine below_set ?_ GE119.out) | exact HB.out)) hb); clear HO_4; clear BK119; clear HB; have HO_4 := n0_; have HO164 := n1_; have BK119 := n2_; have HB := n3_; clear n0_ n1_ n2_ n3_; clear hb ho58; obtain ⟨Ao60, co60, eo60⟩ := Kd.R_slice HO164.out; subst eo60) | ((with_reducible refine gate_builtin (b := .append) (xs := #[.tmp 53, .tmp 58]) rfl ?_); at_builtin; refine Kd.R_append_rows (Kd.int .u8) (w0 := w) w.heap.size rfl (.tmp 53) (.tmp 58) 30 5 (.int .u8 0) 1 rfl Try.underlying30 info5 rfl (by decide) (by omega) u4 x4_2 y162 _ _ _ (fun k_ => some k_ ≠ (.slice Ao60 y162.length co60 : Value).ownBlock) (fun _ => False) rfl rfl ?aO ?aR (fun _ _ h => h) (fun _ h => h.elim) ?aF ?aB ?aS ?aL ?_; (case aR => repeat (first | exact (Kd.R_reads' HO164.out).2.2 | (with_reducible refine Kd.C_alloc ?_ _) | (with_reducible refine Kd.C_drewN ?_ _) | (with_reducible refine Kd.C_drew ?_))); (case aB => exact (by repeat (first | (with_reducible first | exact HB.out | apply below_alloc | apply pw_below_drewN | apply below_drew1 | refine below_set ?_ GE119.out) | exact HB.out))); (case aF => exact (fun k_ hk => Kd.fresh' (Kd.R_lt (by (with_reducible repeat (first | apply Kd.R_alloc | apply Kd.R_drewN | apply Kd.R_drew)); exact HO164.out)) k_ hk)); (case aO => exact (by (with_reducible repeat (first | apply Kd.R_alloc | apply Kd.R_drewN | apply Kd.R_drew)); exact Kd.R_mono HO_4.out (fun _ hk => hk.2))); (case aS => exact (below_size (by repeat (first | (with_reducible first | exact HB.out | apply below_alloc | apply pw_below_drewN | apply below_drew1 | refine below_set ?_ GE119.out) | exact HB.out)))); (case aL => have := LMc55.out; omega); intro v166 w59 ho hb hg hat; rw [← Ny165.out] at ho; have n0_ := Aside0.mk (blk_grown (g := gb119) (o := .cells #[.bool a0_0, .slice A0_1 l0_1.length c0_1, .slice A0_2 l0_2.length c0_2] 26 (0, 0)) (by (with_reducible repeat (first | refine blk_drewN ?_ _ | refine blk_drew ?_ | refine blk_alloc ?_ _)); exact BK119.out) hg (Kd.R_ne HO_4.out BK119.out (by decide))); have n1_ := Aside0.mk (Kd.R_after (ok := (fun _ => True)) (by (with_reducible repeat (first | apply Kd.R_alloc | apply Kd.R_drewN | apply Kd.R_drew)); exact HO164.out) hg hat); have n2_ := Aside0.mk (hb); have n3_ := Aside0.mk (ho); clear BK119; clear HO164; clear HB; clear HO_4; have BK119 := n0_; have HO164 := n1_; have HB := n2_; have HO167 := n3_; clear n0_ n1_ n2_ n3_; clear ho hb hg hat; have hcz61_0 : w59.cell? ⟨gb119, 0, none⟩ = some (.bool a0_0) := (blk_cell BK119.out 0).trans rfl; have hcz61_1 : w59.cell? ⟨gb119, 1, none⟩ = some (.slice A0_1 l0_1.length c0_1) := (blk_cell BK119.out 1).trans rfl; have hcz61_2 : w59.cell? ⟨gb119, 2, none⟩ = some (.slice A0_2 l0_2.length c0_2) := (blk_cell BK119.out 2).trans rfl; have hfz61_0 := blk_frozen BK119.out 0; have hfz61_1 := blk_frozen BK119.out 1; have hfz61_2 := blk_frozen BK119.out 2))
                  go_loopg [4, 63] k2 (fun kq v4 v63 w' => ∃ (x4_3 : List Int) (x63_3 : Int), v63 = .int .i64 x63_3 ∧ Aside0 (policy_Put.l1 kq x4_3 l0_2 (l0_2.length : Int) x63_3 = some (r1, r2)) ∧ Aside0 (kq ≤ k2) ∧ Aside0 (Kd.R (Kd.int .u8) 5 w' w.heap.size (fun _ => True) v4 x4_3) ∧ Aside0 (w'.heap[gb119]? = some (.cells #[.bool a0_0, (.slice A0_1 l0_1.length c0_1), (.slice A0_2 l0_2.length c0_2)] 26 (0, 0))) ∧ Aside0 (Below w.heap.size w w'))
                  case atStart => exact ⟨(y165), (0), (by first | rfl | (simp; done) | (simp [*]; done)), H', ⟨Nat.le_refl _⟩, ⟨by (with_reducible repeat (first | apply Kd.R_alloc | apply Kd.R_drewN | apply Kd.R_drew)); exact Kd.R_mono HO167.out (fun _ hk => trivial)⟩, ⟨by (with_reducible repeat (first | refine blk_drewN ?_ _ | refine blk_drew ?_ | refine blk_alloc ?_ _)); exact BK119.out⟩, ⟨by repeat (first | (with_reducible first | exact HB.out | apply below_alloc | apply pw_below_drewN | apply below_drew1 | refine below_set ?_ GE119.out) | exact HB.out)⟩⟩
                  case round =>
                    clear H'
                    try clear c2
                    try clear p2
                    try clear c3
                    try clear c5
                    try clear p6
                    try clear c25
                    try clear c29
                    try clear c29b0
                    try clear c30
                    try clear c31
                    try clear c32
                    try clear c35
                    try clear c55
                    try clear hcz56_0
                    try clear hcz56_1
                    try clear hcz56_2
                    try clear hcz61_0
                    try clear hcz61_1
                    try clear hcz61_2
                    try clear hfz56_0
                    try clear hfz56_1
                    try clear hfz56_2
                    try clear hfz61_0
                    try clear hfz61_1
                    try clear hfz61_2
                    obtain ⟨x4_3, x63_3, rfl, HA, HK3, HO_4, BK119, HB⟩ := hrel
                    cases gk with
                    | zero => exact absurd HA.out (by simp [policy_Put.l1])
                    | succ k3 =>
                      have H := HA.out
                      clear HA
                      simp only [policy_Put.l1] at H
                      by_cases c62 : x63_3 < (l0_2.length : Int)
                      · rw [if_pos c62] at H
                        have c62b0 : decide (x63_3 < (l0_2.length : Int)) = true := decide_eq_true c62
                        clear c62
                        by_cases c63 : 0 ≤ x63_3
                        · rw [if_pos c63] at H
                          have c63b0 : decide (0 ≤ x63_3) = true := decide_eq_true c63
                          clear c63
                          by_cases c64 : x63_3 < (l0_2.length : Int)
                          · rw [if_pos c64] at H
                            have c64b0 : decide (x63_3 < (l0_2.length : Int)) = true := decide_eq_true c64
                            clear c64
                            obtain ⟨y170, hy170⟩ : ∃ y_ : List Int, y_ = (([((rd_T37 l0_2 x63_3).f0) % 256, ((rd_T37 l0_2 x63_3).f1) % 256, (rd_T37 l0_2 x63_3).f2] : List Int)) := ⟨_, rfl⟩
                            replace H : (if x4_3.length + y170.length < 140737488355328 then (policy_Put.l1 k3 (x4_3 ++ y170) l0_2 (l0_2.length : Int) (wrap64 (x63_3 + 1))) else (none)) = some (r1, r2) := by first | (rw [hy170]; with_reducible exact H) | (have H2_ := (Option.bind_some _ _).symm.trans H; rw [hy170]; with_reducible exact H2_) | (have H2_ := (Option.bind_some _ _).symm.trans H; with_reducible exact H2_) | with_reducible exact H | (rw [hy170]; exact H) | exact H
                            have Ny170 := Aside0.mk hy170
                            clear hy170
                            by_cases c65 : x4_3.length + y170.length < 140737488355328
                            · rw [if_pos c65] at H
                              have LMc65 := Aside0.mk c65
                              clear c65
                              obtain ⟨y173, hy173⟩ : ∃ y_ : List Int, y_ = (x4_3 ++ y170) := ⟨_, rfl⟩
                              replace H : (policy_Put.l1 k3 y173 l0_2 (l0_2.length : Int) (wrap64 (x63_3 + 1))) = some (r1, r2) := by first | (rw [hy173]; with_reducible exact H) | (have H2_ := (Option.bind_some _ _).symm.trans H; rw [hy173]; with_reducible exact H2_) | (have H2_ := (Option.bind_some _ _).symm.trans H; with_reducible exact H2_) | with_reducible exact H | (rw [hy173]; exact H) | exact H
                              have Ny173 := Aside0.mk hy173
                              clear hy173
                              have H' := Aside0.mk H
                              clear H
                              have p168 : 0 ≤ (x63_3 : Int) := of_decide_eq_true (by first | (with_reducible assumption) | assumption)
                              have q168 : x63_3 < (l0_2.length : Int) := of_decide_eq_true (by first | (with_reducible assumption) | assumption)
                              obtain ⟨ad168, e168, hx168_0, hx168_1, hx168_2⟩ := at_T37 HR0_2.out x63_3 p168 q168
                              cases e168
                              replace hx168_0 := (HB.out.cell (World.block_lt_of_cell? w _ hx168_0)).trans hx168_0
                              replace hx168_1 := (HB.out.cell (World.block_lt_of_cell? w _ hx168_1)).trans hx168_1
                              replace hx168_2 := (HB.out.cell (World.block_lt_of_cell? w _ hx168_2)).trans hx168_2
                              replace p168 := eq_true p168
                              replace q168 := eq_true q168
                              go_wp2_with (first | ((with_reducible refine gate_dst (N := 8) rfl ?_); refine box_event ?hg (N := 8) ?hd (cs := #[.int .i64 0, .int .i64 0, .int .u8 0]) (t := 37) ?hr ?_; (case hd => rfl); (case hg => rfl); (case hr => first | (go_simp; done) | (go_simp; rfl)); intro gb169 hg w66 hbox hb; have n0_ := Aside0.mk (Kd.R_below (by (with_reducible repeat (first | apply Kd.R_alloc | apply Kd.R_drewN | apply Kd.R_drew)); exact HO_4.out) hb); have n1_ := Aside0.mk (blk_below (g := gb119) (o := .cells #[.bool a0_0, .slice A0_1 l0_1.length c0_1, .slice (some ad168) l0_2.length c0_2] 26 (0, 0)) (by (with_reducible repeat (first | refine blk_drewN ?_ _ | refine blk_drew ?_ | refine blk_alloc ?_ _)); exact BK119.out) hb); have n2_ := Aside0.mk (below_step (by repeat (first | (with_reducible first | exact HB.out | apply below_alloc | apply pw_below_drewN | apply below_drew1 | refine below_set ?_ GE119.out) | exact HB.out)) hb); have n3_ := Aside0.mk (hbox); have n4_ := Aside0.mk ((by rw [hg]; exact (below_size (by repeat (first | (with_reducible first | exact HB.out | apply below_alloc | apply pw_below_drewN | apply below_drew1 | refine below_set ?_ GE119.out) | exact HB.out))) : w.heap.size ≤ gb169)); have n5_ := Aside0.mk ((by rw [hg]; exact (below_size (by repeat (first | (with_reducible first | exact HB.out | apply below_alloc | apply pw_below_drewN | apply below_drew1 | refine below_set ?_ GE119.out) | exact HB.out))) : w.heap.size ≤ gb169)); have n6_ := Aside0.mk ((by rw [hg]; exact Nat.ne_of_lt (blk_lt (g := gb119) (o := .cells #[.bool a0_0, .slice A0_1 l0_1.length c0_1, .slice (some ad168) l0_2.length c0_2] 26 (0, 0)) (by (with_reducible repeat (first | refine blk_drewN ?_ _ | refine blk_drew ?_ | refine blk_alloc ?_ _)); exact BK119.out)) : gb119 ≠ gb169)); have n7_ := Aside0.mk ((by rw [hg]; exact Nat.ne_of_gt (blk_lt (g := gb119) (o := .cells #[.bool a0_0, .slice A0_1 l0_1.length c0_1, .slice (some ad168) l0_2.length c0_2] 26 (0, 0)) (by (with_reducible repeat (first | refine blk_drewN ?_ _ | refine blk_drew ?_ | refine blk_alloc ?_ _)); exact BK119.out)) : gb169 ≠ gb119)); clear HO_4; clear BK119; clear HB; have HO_4 := n0_; have BK119 := n1_; have HB := n2_; have BK169 := n3_; have GW169 := n4_; have GE169 := n5_; have NB119_169 := n6_; have NB169_119 := n7_; clear n0_ n1_ n2_ n3_ n4_ n5_ n6_ n7_; clear hb hbox hg; have hnb67 := NB169_119.out; have hnc67 := NB119_169.out; have hcz68_0 : w66.cell? ⟨gb169, 0, none⟩ = some (.int .i64 0) := (blk_cell BK169.out 0).trans rfl; have hcz68_1 : w66.cell? ⟨gb169, 1, none⟩ = some (.int .i64 0) := (blk_cell BK169.out 1).trans rfl; have hcz68_2 : w66.cell? ⟨gb169, 2, none⟩ = some (.int .u8 0) := (blk_cell BK169.out 2).trans rfl; have hfz68_0 := blk_frozen BK169.out 0; have hfz68_1 := blk_frozen BK169.out 1; have hfz68_2 := blk_frozen BK169.out 2) | ((with_reducible refine gate_dst (N := 76) rfl ?_); refine Kd.R_lit (Kd.int .u8) _ 5 ?hg (N := 76) ?hd (xs := ([((rd_T37 l0_2 x63_3).f0) % 256, ((rd_T37 l0_2 x63_3).f1) % 256, (rd_T37 l0_2 x63_3).f2] : List Int)) (inner := [.int .u8 (((rd_T37 l0_2 x63_3).f0) % 256), .int .u8 (((rd_T37 l0_2 x63_3).f1) % 256), .int .u8 ((rd_T37 l0_2 x63_3).f2)]) (ok := fun _ => True) (okp := fun _ => True) ?hr ?hp (fun _ hk => hk) trivial (Below.refl _ _) (Nat.le_refl _) (by simp) ?_; (case hd => rfl); (case hg => rfl); (case hr => first | (go_simp; done) | (go_simp; rfl)); (case hp => exact (Reps.one (show Kd.M (Kd.int .u8) _ _ _ (((rd_T37 l0_2 x63_3).f0) % 256) [.int .u8 (((rd_T37 l0_2 x63_3).f0) % 256)] from rfl) (Reps.one (show Kd.M (Kd.int .u8) _ _ _ (((rd_T37 l0_2 x63_3).f1) % 256) [.int .u8 (((rd_T37 l0_2 x63_3).f1) % 256)] from rfl) (Reps.one (show Kd.M (Kd.int .u8) _ _ _ ((rd_T37 l0_2 x63_3).f2) [.int .u8 ((rd_T37 l0_2 x63_3).f2)] from rfl) (Reps.none _ _))))); intro v171 w69 ho70 hb hg_ hnew_; clear hg_ hnew_; (first | rw [← Ny170.out] at ho70 | (simp only [Int.reduceToNat] at ho70; rw [← Ny170.out] at ho70)); have n0_ := Aside0.mk (Kd.R_elder' (by (with_reducible repeat (first | apply Kd.R_alloc | apply Kd.R_drewN | apply Kd.R_drew)); exact (Kd.R_mono (Kd.R_far (p := ⟨gb169, 2, none⟩) (Kd.R_far (p := ⟨gb169, 1, none⟩) (Kd.R_far (p := ⟨gb169, 0, none⟩) (Kd.R_types HO_4.out BK169.out (by decide)) (fun _ hk => hk.2) (.int .i64 ((rd_T37 l0_2 x63_3).f0))) (fun _ hk => hk.2) (.int .i64 ((rd_T37 l0_2 x63_3).f1))) (fun _ hk => hk.2) (.int .u8 ((rd_T37 l0_2 x63_3).f2))) (fun _ h_ => h_.1))) (Kd.R_base ho70) hb); have n1_ := Aside0.mk (Kd.R_lower (Kd.R_new' ho70 (Kd.R_lt (by (with_reducible repeat (first | apply Kd.R_alloc | apply Kd.R_drewN | apply Kd.R_drew)); exact (Kd.R_mono (Kd.R_far (p := ⟨gb169, 2, none⟩) (Kd.R_far (p := ⟨gb169, 1, none⟩) (Kd.R_far (p := ⟨gb169, 0, none⟩) (Kd.R_types HO_4.out BK169.out (by decide)) (fun _ hk => hk.2) (.int .i64 ((rd_T37 l0_2 x63_3).f0))) (fun _ hk => hk.2) (.int .i64 ((rd_T37 l0_2 x63_3).f1))) (fun _ hk => hk.2) (.int .u8 ((rd_T37 l0_2 x63_3).f2))) (fun _ h_ => h_.1))))) (below_size (by repeat (first | (with_reducible first | exact HB.out | apply below_alloc | apply pw_below_drewN | apply below_drew1 | refine below_set ?_ GE119.out | refine below_set ?_ GE169.out) | exact HB.out)))); have n2_ := Aside0.mk (blk_below (g := gb119) (o := .cells #[.bool a0_0, .slice A0_1 l0_1.length c0_1, .slice (some ad168) l0_2.length c0_2] 26 (0, 0)) (by (with_reducible repeat (first | refine blk_drewN ?_ _ | refine blk_drew ?_ | refine blk_alloc ?_ _)); refine blk_far ?_ NB119_169.out _; (with_reducible repeat (first | refine blk_drewN ?_ _ | refine blk_drew ?_ | refine blk_alloc ?_ _)); refine blk_far ?_ NB119_169.out _; (with_reducible repeat (first | refine blk_drewN ?_ _ | refine blk_drew ?_ | refine blk_alloc ?_ _)); refine blk_far ?_ NB119_169.out _; (with_reducible repeat (first | refine blk_drewN ?_ _ | refine blk_drew ?_ | refine blk_alloc ?_ _)); exact BK119.out) hb); have n3_ := Aside0.mk (blk_below (g := gb169) (o := .cells #[.int .i64 ((rd_T37 l0_2 x63_3).f0), .int .i64 ((rd_T37 l0_2 x63_3).f1), .int .u8 ((rd_T37 l0_2 x63_3).f2)] 37 (0, 0)) (by (with_reducible repeat (first | refine blk_drewN ?_ _ | refine blk_drew ?_ | refine blk_alloc ?_ _)); refine blk_put (cs := #[.int .i64 ((rd_T37 l0_2 x63_3).f0), .int .i64 ((rd_T37 l0_2 x63_3).f1), .int .u8 0]) ?_ 2 _ rfl; (with_reducible repeat (first | refine blk_drewN ?_ _ | refine blk_drew ?_ | refine blk_alloc ?_ _)); refine blk_put (cs := #[.int .i64 ((rd_T37 l0_2 x63_3).f0), .int .i64 0, .int .u8 0]) ?_ 1 _ rfl; (with_reducible repeat (first | refine blk_drewN ?_ _ | refine blk_drew ?_ | refine blk_alloc ?_ _)); refine blk_put (cs := #[.int .i64 0, .int .i64 0, .int .u8 0]) ?_ 0 _ rfl; (with_reducible repeat (first | refine blk_drewN ?_ _ | refine blk_drew ?_ | refine blk_alloc ?_ _)); exact BK169.out) hb); have n4_ := Aside0.mk (below_step (by repeat (first | (with_reducible first | exact HB.out | apply below_alloc | apply pw_below_drewN | apply below_drew1 | refine below_set ?_ GE119.out | refine below_set ?_ GE169.out) | exact HB.out)) hb); clear HO_4; clear BK119; clear BK169; clear HB; have HO_4 := n0_; have HO172 := n1_; have BK119 := n2_; have BK169 := n3_; have HB := n4_; clear n0_ n1_ n2_ n3_ n4_; clear hb ho70; obtain ⟨Ao72, co72, eo72⟩ := Kd.R_slice HO172.out; subst eo72) | ((with_reducible refine gate_builtin (b := .append) (xs := #[.tmp 67, .tmp 76]) rfl ?_); at_builtin; refine Kd.R_append_rows (Kd.int .u8) (w0 := w) w.heap.size rfl (.tmp 67) (.tmp 76) 30 5 (.int .u8 0) 1 rfl Try.underlying30 info5 rfl (by decide) (by omega) u4 x4_3 y170 _ _ _ (fun k_ => some k_ ≠ (.slice Ao72 y170.length co72 : Value).ownBlock) (fun _ => False) rfl rfl ?aO ?aR (fun _ _ h => h) (fun _ h => h.elim) ?aF ?aB ?aS ?aL ?_; (case aR => repeat (first | exact (Kd.R_reads' HO172.out).2.2 | (with_reducible refine Kd.C_alloc ?_ _) | (with_reducible refine Kd.C_drewN ?_ _) | (with_reducible refine Kd.C_drew ?_))); (case aB => exact (by repeat (first | (with_reducible first | exact HB.out | apply below_alloc | apply pw_below_drewN | apply below_drew1 | refine below_set ?_ GE119.out | refine below_set ?_ GE169.out) | exact HB.out))); (case aF => exact (fun k_ hk => Kd.fresh' (Kd.R_lt (by (with_reducible repeat (first | apply Kd.R_alloc | apply Kd.R_drewN | apply Kd.R_drew)); exact HO172.out)) k_ hk)); (case aO => exact (by (with_reducible repeat (first | apply Kd.R_alloc | apply Kd.R_drewN | apply Kd.R_drew)); exact Kd.R_mono HO_4.out (fun _ hk => hk.2))); (case aS => exact (below_size (by repeat (first | (with_reducible first | exact HB.out | apply below_alloc | apply pw_below_drewN | apply below_drew1 | refine below_set ?_ GE119.out | refine below_set ?_ GE169.out) | exact HB.out)))); (case aL => have := LMc65.out; omega); intro v174 w71 ho hb hg hat; rw [← Ny173.out] at ho; have n0_ := Aside0.mk (blk_grown (g := gb119) (o := .cells #[.bool a0_0, .slice A0_1 l0_1.length c0_1, .slice (some ad168) l0_2.length c0_2] 26 (0, 0)) (by (with_reducible repeat (first | refine blk_drewN ?_ _ | refine blk_drew ?_ | refine blk_alloc ?_ _)); exact BK119.out) hg (Kd.R_ne HO_4.out BK119.out (by decide))); have n1_ := Aside0.mk (blk_grown (g := gb169) (o := .cells #[.int .i64 ((rd_T37 l0_2 x63_3).f0), .int .i64 ((rd_T37 l0_2 x63_3).f1), .int .u8 ((rd_T37 l0_2 x63_3).f2)] 37 (0, 0)) (by (with_reducible repeat (first | refine blk_drewN ?_ _ | refine blk_drew ?_ | refine blk_alloc ?_ _)); exact BK169.out) hg (Kd.R_ne HO_4.out BK169.out (by decide))); have n2_ := Aside0.mk (Kd.R_after (ok := (fun _ => True)) (by (with_reducible repeat (first | apply Kd.R_alloc | apply Kd.R_drewN | apply Kd.R_drew)); exact HO172.out) hg hat); have n3_ := Aside0.mk (hb); have n4_ := Aside0.mk (ho); clear BK119; clear BK169; clear HO172; clear HB; clear HO_4; have BK119 := n0_; have BK169 := n1_; have HO172 := n2_; have HB := n3_; have HO175 := n4_; clear n0_ n1_ n2_ n3_ n4_; clear ho hb hg hat))
                              go_roundg k3
                              case measure => have := HJ3.out; have := HK2.out; have := HK3.out; omega
                              case rel => exact ⟨(y173), (wrap64 (x63_3 + 1)), (by first | rfl | (simp; done) | (simp [*]; done)), H', ⟨by have := HJ3.out; have := HK2.out; have := HK3.out; omega⟩, ⟨by (with_reducible repeat (first | apply Kd.R_alloc | apply Kd.R_drewN | apply Kd.R_drew)); exact Kd.R_mono HO175.out (fun _ hk => trivial)⟩, ⟨by (with_reducible repeat (first | refine blk_drewN ?_ _ | refine blk_drew ?_ | refine blk_alloc ?_ _)); exact BK119.out⟩, ⟨by repeat (first | (with_reducible first | exact HB.out | apply below_alloc | apply pw_below_drewN | apply below_drew1 | refine below_set ?_ GE119.out | refine below_set ?_ GE169.out) | exact HB.out)⟩⟩
                            · rw [if_neg c65] at H
                              exact absurd H (by simp)
                          · rw [if_neg c64] at H
                            exact absurd H (by simp)
                        · rw [if_neg c63] at H
                          exact absurd H (by simp)
                      · rw [if_neg c62] at H
                        have c62b0 : decide (x63_3 < (l0_2.length : Int)) = false := decide_eq_false c62
                        clear c62
                        simp only [Option.some.injEq, Prod.mk.injEq] at H
                        obtain ⟨rfl, rfl⟩ := H
                        go_wp2
                        go_ret2
                        exact ⟨_, by first | rfl | (simp [errW_none, errW_some] <;> rfl) | (simp [*, errW_none, errW_some] <;> rfl), by (with_reducible repeat (first | apply Kd.R_alloc | apply Kd.R_drewN | apply Kd.R_drew)); exact HO_4.out, by repeat (first | (with_reducible first | exact HB.out | apply below_alloc | apply pw_below_drewN | apply below_drew1 | refine below_set ?_ GE119.out) | exact HB.out)⟩
                · rw [if_neg c55] at H
                  exact absurd H (by simp)
        · rw [if_neg c22] at H
          exact absurd H (by simp)
  · replace c3 := Bool.eq_false_iff.mpr c3
    subst c3
    have H1 : (some (([] : List Int), 1)) = some (r1, r2) := by rw [if_neg (show ¬ (false = true) by decide)] at H; exact H
    clear H
    have H := H1
    clear H1
    simp only [Option.some.injEq, Prod.mk.injEq] at H
    obtain ⟨rfl, rfl⟩ := H
    go_enter Try.func11, Try.ntmps11
    go_wp2_with (first | ((with_reducible refine gate_dst (N := 1) rfl ?_); refine box_event ?hg (N := 1) ?hd (cs := #[.bool a0_0, .slice A0_1 l0_1.length c0_1, .slice A0_2 l0_2.length c0_2]) (t := 26) ?hr ?_; (case hd => rfl); (case hg => rfl); (case hr => first | (go_simp; done) | (go_simp; rfl)); intro gb119 hg w73 hbox hb; have n0_ := Aside0.mk (below_step (by repeat (first | (with_reducible first | exact HB.out | apply below_alloc | apply pw_below_drewN | apply below_drew1) | exact HB.out)) hb); have n1_ := Aside0.mk (hbox); have n2_ := Aside0.mk ((by rw [hg]; exact (below_size (by repeat (first | (with_reducible first | exact HB.out | apply below_alloc | apply pw_below_drewN | apply below_drew1) | exact HB.out))) : w.heap.size ≤ gb119)); have n3_ := Aside0.mk ((by rw [hg]; exact (below_size (by repeat (first | (with_reducible first | exact HB.out | apply below_alloc | apply pw_below_drewN | apply below_drew1) | exact HB.out))) : w.heap.size ≤ gb119)); clear HB; have HB := n0_; have BK119 := n1_; have GW119 := n2_; have GE119 := n3_; clear n0_ n1_ n2_ n3_; clear hb hbox hg; have hcz74_0 : w73.cell? ⟨gb119, 0, none⟩ = some (.bool a0_0) := (blk_cell BK119.out 0).trans rfl; have hcz74_1 : w73.cell? ⟨gb119, 1, none⟩ = some (.slice A0_1 l0_1.length c0_1) := (blk_cell BK119.out 1).trans rfl; have hcz74_2 : w73.cell? ⟨gb119, 2, none⟩ = some (.slice A0_2 l0_2.length c0_2) := (blk_cell BK119.out 2).trans rfl; have hfz74_0 := blk_frozen BK119.out 0; have hfz74_1 := blk_frozen BK119.out 1; have hfz74_2 := blk_frozen BK119.out 2) | ((with_reducible refine gate_callee (f := 24) rfl ?_); refine goesL_ (some 10) rfl rfl Try.func24 (by kernel_rfl) rfl #[.agg #[.bool a0_0, .slice A0_1 l0_1.length c0_1, .slice A0_2 l0_2.length c0_2]] rfl (by (try simp only [List.map_toArray, List.map_cons, List.map_nil]); first | done | rfl | (simp only [List.length_drop, List.length_take]; rfl)) ?_; (with_reducible refine (policy_Good.calls k a0_0 _ _ l0_1 _ _ l0_2 false _ ?side1 ?side2 ?side3 ?side4 A2.out).mono ?_); (case side1 => repeat (first | exact (Kd.C_below HR0_1.out HB.out) | (with_reducible refine Kd.C_alloc ?_ _) | (with_reducible refine Kd.C_drewN ?_ _) | (with_reducible refine Kd.C_drew ?_))); (case side2 => exact HC0_1.out); (case side3 => repeat (first | exact (Kd.C_below HR0_2.out HB.out) | (with_reducible refine Kd.C_alloc ?_ _) | (with_reducible refine Kd.C_drewN ?_ _) | (with_reducible refine Kd.C_drew ?_))); (case side4 => exact HC0_2.out); rintro e w75 ⟨rfl, hb⟩; refine ⟨_, rfl, ?_⟩; have n0_ := Aside0.mk (blk_below (g := gb119) (o := .cells #[.bool a0_0, .slice A0_1 l0_1.length c0_1, .slice A0_2 l0_2.length c0_2] 26 (0, 0)) (by (with_reducible repeat (first | refine blk_drewN ?_ _ | refine blk_drew ?_ | refine blk_alloc ?_ _)); exact BK119.out) hb); have n1_ := Aside0.mk (below_step (by repeat (first | (with_reducible first | exact HB.out | apply below_alloc | apply pw_below_drewN | apply below_drew1 | refine below_set ?_ GE119.out) | exact HB.out)) hb); clear BK119; clear HB; have BK119 := n0_; have HB := n1_; clear n0_ n1_; (try clear hb); (try clear hb2); (try clear hk); (try clear hi)))
    go_ret2
    exact ⟨_, by first | rfl | (simp [errW_none, errW_some] <;> rfl) | (simp [*, errW_none, errW_some] <;> rfl), by first | exact Kd.R_nil _ _ _ _ _ | exact Kd.N_nil _ _ _ _ _ | exact Kd.V_nil _ _ _ _ _ | exact Kd.Q_nil _ _ _ _ _ | exact Kd.S_nil _ _ _ _ _, by repeat (first | (with_reducible first | exact HB.out | apply below_alloc | apply pw_below_drewN | apply below_drew1 | refine below_set ?_ GE119.out) | exact HB.out)⟩

end Go.Proofs.Ytlhoaejkjhdlgaa.PPolicyBytes
