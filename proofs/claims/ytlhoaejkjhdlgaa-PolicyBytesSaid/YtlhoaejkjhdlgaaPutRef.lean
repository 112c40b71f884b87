/- What the reference's PutPolicy writes: the walk against a plain function on lists (its lines began as print.sh's). -/
import Derived.Test.YtlhoaejkjhdlgaaPPolicyBytesx0
import Derived.Test.YtlhoaejkjhdlgaaPPolicyBytesx7
import Derived.Test.YtlhoaejkjhdlgaaPPolicyBytesx8
namespace Go.Proofs.Ytlhoaejkjhdlgaa.PPolicyBytes
open Go.RowKit Go.Proofs.YtlhoaejkjhdlgaaW.PrintWords Go.Proofs.YtlhoaejkjhdlgaaW.PrintLast Go.Proofs.YtlhoaejkjhdlgaaW.PrintMore
attribute [local go_sem] max2_int min2_int max_two min_two max_three min_three max_four min_four   -- for this text's walks alone
set_option linter.unusedVariables false
set_option linter.unusedSimpArgs false

/-! ### tinctureref7_PutPolicy: function 17 -/
mutual
def tinctureref7_PutPolicy.j0 : Nat → List Int → Bool → List (S70) → List (S71) → Option (List Int × Bool)
  | 0, _, _, _, _ => none
  | k + 1, x4, x220000, x220001, x220002 => tinctureref7_PutPolicy.l0 k x4 0 x220000 x220001 x220002
def tinctureref7_PutPolicy.l0 : Nat → List Int → Int → Bool → List (S70) → List (S71) → Option (List Int × Bool)
  | 0, _, _, _, _, _ => none
  | k + 1, x4, x5, x220000, x220001, x220002 => if x5 < (x220001.length : Int) then (if 0 ≤ x5 then ((some (([((rd_T70 x220001 x5).f0) % 256] : List Int) : List Int)).bind fun y227 => (if x4.length + y227.length < 140737488355328 then ((tinctureref7_W32.f (x4 ++ y227) ((rd_T70 x220001 x5).f1)).bind fun t233 => ((tinctureref7_W32.f t233 ((rd_T70 x220001 x5).f2)).bind fun t236 => ((some (([(rd_T70 x220001 x5).f3] : List Int) : List Int)).bind fun y239 => (if t236.length + y239.length < 140737488355328 then (tinctureref7_PutPolicy.l0 k (t236 ++ y239) (wrap64 (x5 + 1)) x220000 x220001 x220002) else (none))))) else (none))) else (none)) else ((some (([((x220002.length : Int)) % 256] : List Int) : List Int)).bind fun y245 => (if x4.length + y245.length < 140737488355328 then (tinctureref7_PutPolicy.l1 k (x4 ++ y245) 0 x220000 x220001 x220002) else (none)))
def tinctureref7_PutPolicy.l1 : Nat → List Int → Int → Bool → List (S70) → List (S71) → Option (List Int × Bool)
  | 0, _, _, _, _, _ => none
  | k + 1, x4, x7, x220000, x220001, x220002 => if x7 < (x220002.length : Int) then (if 0 ≤ x7 then ((some (([((rd_T71 x220002 x7).f0) % 256, ((rd_T71 x220002 x7).f1) % 256, (rd_T71 x220002 x7).f2] : List Int) : List Int)).bind fun y254 => (if x4.length + y254.length < 140737488355328 then (tinctureref7_PutPolicy.l1 k (x4 ++ y254) (wrap64 (x7 + 1)) x220000 x220001 x220002) else (none))) else (none)) else (some (x4, true))
end
def tinctureref7_PutPolicy.f (k : Nat) (a0_0 : Bool) (l0_1 : List (S70)) (l0_2 : List (S71)) : Option (List Int × Bool) := (tinctureref7_MayPolicy.f k a0_0 l0_1 l0_2).bind fun t220 => (if t220 = true then ((some (([84, 80, 49, 0, ((l0_1.length : Int)) % 256] : List Int) : List Int)).bind fun y221 => (if a0_0 = true then (if 3 < (y221.length : Int) then (tinctureref7_PutPolicy.j0 k (y221.set (3 : Int).toNat 1) a0_0 l0_1 l0_2) else (none)) else (tinctureref7_PutPolicy.j0 k y221 a0_0 l0_1 l0_2))) else (some (([] : List Int), false)))
theorem tinctureref7_PutPolicy.mono_l : ∀ k, (∀ y0 y1 y2 y3, LeO (tinctureref7_PutPolicy.j0 k y0 y1 y2 y3) (tinctureref7_PutPolicy.j0 (k + 1) y0 y1 y2 y3)) ∧ (∀ y0 y1 y2 y3 y4, LeO (tinctureref7_PutPolicy.l0 k y0 y1 y2 y3 y4) (tinctureref7_PutPolicy.l0 (k + 1) y0 y1 y2 y3 y4)) ∧ (∀ y0 y1 y2 y3 y4, LeO (tinctureref7_PutPolicy.l1 k y0 y1 y2 y3 y4) (tinctureref7_PutPolicy.l1 (k + 1) y0 y1 y2 y3 y4))
  | 0 => ⟨fun _ _ _ _ r h => by simp [tinctureref7_PutPolicy.j0] at h, fun _ _ _ _ _ r h => by simp [tinctureref7_PutPolicy.l0] at h, fun _ _ _ _ _ r h => by simp [tinctureref7_PutPolicy.l1] at h⟩
  | k + 1 => by
    obtain ⟨ih0, ih1, ih2⟩ := tinctureref7_PutPolicy.mono_l k
    refine ⟨?_, ?_, ?_⟩
    · intro y0 y1 y2 y3
      unfold tinctureref7_PutPolicy.j0
      repeat' first
      | (with_reducible exact ih0 _ _ _ _)
      | (with_reducible exact ih1 _ _ _ _ _)
      | (with_reducible exact ih2 _ _ _ _ _)
      | (with_reducible exact tinctureref7_MayPolicy.mono _ _ _ _)
      | (with_reducible exact LeO.refl _)
      | (with_reducible exact LeO.none _)
      | (with_reducible refine LeO.ite ?_ ?_)
      | (with_reducible refine LeO.bind ?_ (fun _ => ?_))
      | exact ih0 _ _ _ _
      | exact ih1 _ _ _ _ _
      | exact ih2 _ _ _ _ _
      | exact tinctureref7_MayPolicy.mono _ _ _ _
      | exact LeO.none _
      | refine LeO.ite ?_ ?_
      | refine LeO.bind ?_ (fun _ => ?_)
    · intro y0 y1 y2 y3 y4
      unfold tinctureref7_PutPolicy.l0
      repeat' first
      | (with_reducible exact ih0 _ _ _ _)
      | (with_reducible exact ih1 _ _ _ _ _)
      | (with_reducible exact ih2 _ _ _ _ _)
      | (with_reducible exact tinctureref7_MayPolicy.mono _ _ _ _)
      | (with_reducible exact LeO.refl _)
      | (with_reducible exact LeO.none _)
      | (with_reducible refine LeO.ite ?_ ?_)
      | (with_reducible refine LeO.bind ?_ (fun _ => ?_))
      | exact ih0 _ _ _ _
      | exact ih1 _ _ _ _ _
      | exact ih2 _ _ _ _ _
      | exact tinctureref7_MayPolicy.mono _ _ _ _
      | exact LeO.none _
      | refine LeO.ite ?_ ?_
      | refine LeO.bind ?_ (fun _ => ?_)
    · intro y0 y1 y2 y3 y4
      unfold tinctureref7_PutPolicy.l1
      repeat' first
      | (with_reducible exact ih0 _ _ _ _)
      | (with_reducible exact ih1 _ _ _ _ _)
      | (with_reducible exact ih2 _ _ _ _ _)
      | (with_reducible exact tinctureref7_MayPolicy.mono _ _ _ _)
      | (with_reducible exact LeO.refl _)
      | (with_reducible exact LeO.none _)
      | (with_reducible refine LeO.ite ?_ ?_)
      | (with_reducible refine LeO.bind ?_ (fun _ => ?_))
      | exact ih0 _ _ _ _
      | exact ih1 _ _ _ _ _
      | exact ih2 _ _ _ _ _
      | exact tinctureref7_MayPolicy.mono _ _ _ _
      | exact LeO.none _
      | refine LeO.ite ?_ ?_
      | refine LeO.bind ?_ (fun _ => ?_)
theorem tinctureref7_PutPolicy.mono : ∀ a0 a1 a2 k, LeO (tinctureref7_PutPolicy.f k a0 a1 a2) (tinctureref7_PutPolicy.f (k + 1) a0 a1 a2) := by
  intro a0 a1 a2 k
  obtain ⟨ih0, ih1, ih2⟩ := tinctureref7_PutPolicy.mono_l k
  unfold tinctureref7_PutPolicy.f
  repeat' first
      | (with_reducible exact ih0 _ _ _ _)
      | (with_reducible exact ih1 _ _ _ _ _)
      | (with_reducible exact ih2 _ _ _ _ _)
      | (with_reducible exact tinctureref7_MayPolicy.mono _ _ _ _)
      | (with_reducible exact LeO.refl _)
      | (with_reducible exact LeO.none _)
      | (with_reducible refine LeO.ite ?_ ?_)
      | (with_reducible refine LeO.bind ?_ (fun _ => ?_))
      | exact ih0 _ _ _ _
      | exact ih1 _ _ _ _ _
      | exact ih2 _ _ _ _ _
      | exact tinctureref7_MayPolicy.mono _ _ _ _
      | exact LeO.none _
      | refine LeO.ite ?_ ?_
      | refine LeO.bind ?_ (fun _ => ?_)
def tinctureref7_PutPolicy.T10 : Bool × List (List Nat × List Nat) := (true, [([], []), ([], []), ([1], [1]), ([2], [2]), ([3], [3]), ([0, 4], [0, 4]), ([], []), ([6], [6]), ([5, 7, 5], [5, 7]), ([], []), ([9], [9]), ([8, 10, 8], [8, 10]), ([], []), ([12], [12]), ([13], [13]), ([11, 14, 11], [11, 14]), ([15, 15, 0, 1, 2, 3, 4, 5, 6, 7, 8, 9, 10, 11, 12, 13, 14, 15], [0, 15])])
def tinctureref7_PutPolicy.B10 : List Nat := [0, 0, 2, 6, 14, 31, 0, 64, 255, 0, 512, 2047, 0, 4096, 12288, 32767, 65535]
theorem tinctureref7_PutPolicy.tab10 : rtab .any (opsOf Try.f17 10) = tinctureref7_PutPolicy.T10 := by kernel_rfl
theorem tinctureref7_PutPolicy.bits10 : waitsOk tinctureref7_PutPolicy.T10.2 tinctureref7_PutPolicy.B10 = true := by kernel_rfl
def tinctureref7_PutPolicy.T15 : Bool × List (List Nat × List Nat) := (true, [([], []), ([], []), ([1], [1]), ([], []), ([2, 3], [2, 3]), ([4], [4]), ([5], [5]), ([6], [6]), ([], []), ([8], [8]), ([], []), ([9, 10], [9, 10]), ([11], [11]), ([12], [12]), ([13], [13]), ([], []), ([15], [15]), ([], []), ([16, 17], [16, 17]), ([18], [18]), ([19], [19]), ([7, 14, 20], [7, 14, 20]), ([0, 21], [0, 21]), ([22, 22, 0, 1, 2, 3, 4, 5, 6, 7, 8, 9, 10, 11, 12, 13, 14, 15, 16, 17, 18, 19, 20, 21, 22], [0, 22])])
def tinctureref7_PutPolicy.B15 : List Nat := [0, 0, 2, 0, 14, 30, 62, 126, 0, 256, 0, 1792, 3840, 7936, 16128, 0, 32768, 0, 229376, 491520, 1015808, 2097150, 4194303, 8388607]
theorem tinctureref7_PutPolicy.tab15 : rtab .any (opsOf Try.f17 15) = tinctureref7_PutPolicy.T15 := by kernel_rfl
theorem tinctureref7_PutPolicy.bits15 : waitsOk tinctureref7_PutPolicy.T15.2 tinctureref7_PutPolicy.B15 = true := by kernel_rfl
set_option maxHeartbeats 8000000 in
set_option maxRecDepth 100000 in
theorem tinctureref7_PutPolicy.calls (k : Nat) (a0_0 : Bool) (A0_1 : Option Addr) (c0_1 : Nat) (l0_1 : List (S70)) (A0_2 : Option Addr) (c0_2 : Nat) (l0_2 : List (S71)) (r1 : List Int) (r2 : Bool) (w : World) (hr0_1 : Kd.C k70 w A0_1 l0_1.length l0_1) (hc0_1 : l0_1.length ≤ c0_1) (hr0_2 : Kd.C k71 w A0_2 l0_2.length l0_2) (hc0_2 : l0_2.length ≤ c0_2) (h : tinctureref7_PutPolicy.f k a0_0 l0_1 l0_2 = some (r1, r2)) :
    Calls Try.prog 17 #[.agg #[.bool a0_0, .slice A0_1 l0_1.length c0_1, .slice A0_2 l0_2.length c0_2]] w fun e w' => ∃ v0_ : Value, e = .returned (.tuple #[v0_, .bool r2]) ∧ Kd.R (Kd.int .u8) 5 w' w.heap.size (fun _ => True) v0_ r1 ∧ Below w.heap.size w w' := by
  have hu46 := Try.underlying46
  have hu70 := Try.underlying70
  have HR0_1 := Aside0.mk hr0_1
  have HC0_1 := Aside0.mk hc0_1
  clear hr0_1 hc0_1
  have HR0_2 := Aside0.mk hr0_2
  have HC0_2 := Aside0.mk hc0_2
  clear hr0_2 hc0_2
  have HB := Aside0.mk (Below.refl w.heap.size w)
  have H : ((tinctureref7_MayPolicy.f k a0_0 l0_1 l0_2).bind fun t220 => (if t220 = true then ((some (([84, 80, 49, 0, ((l0_1.length : Int)) % 256] : List Int) : List Int)).bind fun y221 => (if a0_0 = true then (if 3 < (y221.length : Int) then (tinctureref7_PutPolicy.j0 k (y221.set (3 : Int).toNat 1) a0_0 l0_1 l0_2) else (none)) else (tinctureref7_PutPolicy.j0 k y221 a0_0 l0_1 l0_2))) else (some (([] : List Int), false)))) = some (r1, r2) := h
  clear h
  replace H := Option.bind_eq_some_iff.mp H
  obtain ⟨t220, A20, H⟩ := H
  replace H : (if t220 = true then ((some (([84, 80, 49, 0, ((l0_1.length : Int)) % 256] : List Int) : List Int)).bind fun y221 => (if a0_0 = true then (if 3 < (y221.length : Int) then (tinctureref7_PutPolicy.j0 k (y221.set (3 : Int).toNat 1) a0_0 l0_1 l0_2) else (none)) else (tinctureref7_PutPolicy.j0 k y221 a0_0 l0_1 l0_2))) else (some (([] : List Int), false))) = some (r1, r2) := H
  have A2 := Aside0.mk A20
  clear A20
  by_cases c3 : t220 = true
  · subst c3
    have H1 : ((some (([84, 80, 49, 0, ((l0_1.length : Int)) % 256] : List Int) : List Int)).bind fun y221 => (if a0_0 = true then (if 3 < (y221.length : Int) then (tinctureref7_PutPolicy.j0 k (y221.set (3 : Int).toNat 1) a0_0 l0_1 l0_2) else (none)) else (tinctureref7_PutPolicy.j0 k y221 a0_0 l0_1 l0_2))) = some (r1, r2) := by rw [if_pos rfl] at H; exact H
    clear H
    have H := H1
    clear H1
    obtain ⟨y221, hy221⟩ : ∃ y_ : List Int, y_ = (([84, 80, 49, 0, ((l0_1.length : Int)) % 256] : List Int)) := ⟨_, rfl⟩
    replace H : (if a0_0 = true then (if 3 < (y221.length : Int) then (tinctureref7_PutPolicy.j0 k (y221.set (3 : Int).toNat 1) a0_0 l0_1 l0_2) else (none)) else (tinctureref7_PutPolicy.j0 k y221 a0_0 l0_1 l0_2)) = some (r1, r2) := by first | (rw [hy221]; with_reducible exact H) | (have H2_ := (Option.bind_some _ _).symm.trans H; rw [hy221]; with_reducible exact H2_) | (have H2_ := (Option.bind_some _ _).symm.trans H; with_reducible exact H2_) | with_reducible exact H | (rw [hy221]; exact H) | exact H
    have Ny221 := Aside0.mk hy221
    clear hy221
    have HC4 := Aside0.mk H
    clear H
    go_enter Try.func17, Try.ntmps17
    go_upto_if 17 with (first | ((with_reducible refine gate_dst (N := 1) rfl ?_); refine box_event ?hg (N := 1) ?hd (cs := #[.bool a0_0, .slice A0_1 l0_1.length c0_1, .slice A0_2 l0_2.length c0_2]) (t := 46) ?hr ?_; (case hd => rfl); (case hg => rfl); (case hr => first | (go_simp; done) | (go_simp; rfl)); intro gb219 hg w5 hbox hb; have n0_ := Aside0.mk (below_step (by repeat (first | (with_reducible first | exact HB.out | apply below_alloc | apply pw_below_drewN | apply below_drew1) | exact HB.out)) hb); have n1_ := Aside0.mk (hbox); have n2_ := Aside0.mk ((by rw [hg]; exact (below_size (by repeat (first | (with_reducible first | exact HB.out | apply below_alloc | apply pw_below_drewN | apply below_drew1) | exact HB.out))) : w.heap.size ≤ gb219)); have n3_ := Aside0.mk ((by rw [hg]; exact (below_size (by repeat (first | (with_reducible first | exact HB.out | apply below_alloc | apply pw_below_drewN | apply below_drew1) | exact HB.out))) : w.heap.size ≤ gb219)); clear HB; have HB := n0_; have BK219 := n1_; have GW219 := n2_; have GE219 := n3_; clear n0_ n1_ n2_ n3_; clear hb hbox hg; have hcz6_0 : w5.cell? ⟨gb219, 0, none⟩ = some (.bool a0_0) := (blk_cell BK219.out 0).trans rfl; have hcz6_1 : w5.cell? ⟨gb219, 1, none⟩ = some (.slice A0_1 l0_1.length c0_1) := (blk_cell BK219.out 1).trans rfl; have hcz6_2 : w5.cell? ⟨gb219, 2, none⟩ = some (.slice A0_2 l0_2.length c0_2) := (blk_cell BK219.out 2).trans rfl; have hfz6_0 := blk_frozen BK219.out 0; have hfz6_1 := blk_frozen BK219.out 1; have hfz6_2 := blk_frozen BK219.out 2) | ((with_reducible refine gate_callee (f := 29) rfl ?_); refine goesL_ (some 9) rfl rfl Try.func29 (by kernel_rfl) rfl #[.agg #[.bool a0_0, .slice A0_1 l0_1.length c0_1, .slice A0_2 l0_2.length c0_2]] rfl (by (try simp only [List.map_toArray, List.map_cons, List.map_nil]); first | done | rfl | (simp only [List.length_drop, List.length_take]; rfl)) ?_; (with_reducible refine (tinctureref7_MayPolicy.calls k a0_0 _ _ l0_1 _ _ l0_2 true _ ?side1 ?side2 ?side3 ?side4 A2.out).mono ?_); (case side1 => repeat (first | exact (Kd.C_below HR0_1.out HB.out) | (with_reducible refine Kd.C_alloc ?_ _) | (with_reducible refine Kd.C_drewN ?_ _) | (with_reducible refine Kd.C_drew ?_))); (case side2 => exact HC0_1.out); (case side3 => repeat (first | exact (Kd.C_below HR0_2.out HB.out) | (with_reducible refine Kd.C_alloc ?_ _) | (with_reducible refine Kd.C_drewN ?_ _) | (with_reducible refine Kd.C_drew ?_))); (case side4 => exact HC0_2.out); rintro e w7 ⟨rfl, hb⟩; refine ⟨_, rfl, ?_⟩; have n0_ := Aside0.mk (blk_below (g := gb219) (o := .cells #[.bool a0_0, .slice A0_1 l0_1.length c0_1, .slice A0_2 l0_2.length c0_2] 46 (0, 0)) (by (with_reducible repeat (first | refine blk_drewN ?_ _ | refine blk_drew ?_ | refine blk_alloc ?_ _)); exact BK219.out) hb); have n1_ := Aside0.mk (below_step (by repeat (first | (with_reducible first | exact HB.out | apply below_alloc | apply pw_below_drewN | apply below_drew1 | refine below_set ?_ GE219.out) | exact HB.out)) hb); clear BK219; clear HB; have BK219 := n0_; have HB := n1_; clear n0_ n1_; (try clear hb); (try clear hb2); (try clear hk); (try clear hi); have hcz8_0 : w7.cell? ⟨gb219, 0, none⟩ = some (.bool a0_0) := (blk_cell BK219.out 0).trans rfl; have hcz8_1 : w7.cell? ⟨gb219, 1, none⟩ = some (.slice A0_1 l0_1.length c0_1) := (blk_cell BK219.out 1).trans rfl; have hcz8_2 : w7.cell? ⟨gb219, 2, none⟩ = some (.slice A0_2 l0_2.length c0_2) := (blk_cell BK219.out 2).trans rfl; have hfz8_0 := blk_frozen BK219.out 0; have hfz8_1 := blk_frozen BK219.out 1; have hfz8_2 := blk_frozen BK219.out 2) | ((with_reducible refine gate_dst (N := 15) rfl ?_); refine Kd.R_lit (Kd.int .u8) _ 5 ?hg (N := 15) ?hd (xs := ([84, 80, 49, 0, ((l0_1.length : Int)) % 256] : List Int)) (inner := [.int .u8 84, .int .u8 80, .int .u8 49, .int .u8 0, .int .u8 (((l0_1.length : Int)) % 256)]) (ok := fun _ => True) (okp := fun _ => True) ?hr ?hp (fun _ hk => hk) trivial (Below.refl _ _) (Nat.le_refl _) (by simp) ?_; (case hd => rfl); (case hg => rfl); (case hr => first | (go_simp; done) | (go_simp; rfl)); (case hp => exact (Reps.one (show Kd.M (Kd.int .u8) _ _ _ 84 [.int .u8 84] from rfl) (Reps.one (show Kd.M (Kd.int .u8) _ _ _ 80 [.int .u8 80] from rfl) (Reps.one (show Kd.M (Kd.int .u8) _ _ _ 49 [.int .u8 49] from rfl) (Reps.one (show Kd.M (Kd.int .u8) _ _ _ 0 [.int .u8 0] from rfl) (Reps.one (show Kd.M (Kd.int .u8) _ _ _ (((l0_1.length : Int)) % 256) [.int .u8 (((l0_1.length : Int)) % 256)] from rfl) (Reps.none _ _))))))); intro v222 w9 ho10 hb hg_ hnew_; clear hg_ hnew_; (first | rw [← Ny221.out] at ho10 | (simp only [Int.reduceToNat] at ho10; rw [← Ny221.out] at ho10)); have n0_ := Aside0.mk (Kd.R_lower ho10 (below_size (by repeat (first | (with_reducible first | exact HB.out | apply below_alloc | apply pw_below_drewN | apply below_drew1 | refine below_set ?_ GE219.out) | exact HB.out)))); have n1_ := Aside0.mk (blk_below (g := gb219) (o := .cells #[.bool a0_0, .slice A0_1 l0_1.length c0_1, .slice A0_2 l0_2.length c0_2] 46 (0, 0)) (by (with_reducible repeat (first | refine blk_drewN ?_ _ | refine blk_drew ?_ | refine blk_alloc ?_ _)); exact BK219.out) hb); have n2_ := Aside0.mk (below_step (by repeat (first | (with_reducible first | exact HB.out | apply below_alloc | apply pw_below_drewN | apply below_drew1 | refine below_set ?_ GE219.out) | exact HB.out)) hb); clear BK219; clear HB; have HO223 := n0_; have BK219 := n1_; have HB := n2_; clear n0_ n1_ n2_; clear hb ho10; have hcz11_0 : w9.cell? ⟨gb219, 0, none⟩ = some (.bool a0_0) := (blk_cell BK219.out 0).trans rfl; have hcz11_1 : w9.cell? ⟨gb219, 1, none⟩ = some (.slice A0_1 l0_1.length c0_1) := (blk_cell BK219.out 1).trans rfl; have hcz11_2 : w9.cell? ⟨gb219, 2, none⟩ = some (.slice A0_2 l0_2.length c0_2) := (blk_cell BK219.out 2).trans rfl; have hfz11_0 := blk_frozen BK219.out 0; have hfz11_1 := blk_frozen BK219.out 1; have hfz11_2 := blk_frozen BK219.out 2))
    (try simp only [Act.put, List.setIfInBounds_toArray, List.set_cons_zero, List.set_cons_succ])
    go_cut [] (fun wc => ∃ (kq : Nat) (x4_3 : List Int), Aside0 (tinctureref7_PutPolicy.j0 kq x4_3 a0_0 l0_1 l0_2 = some (r1, r2)) ∧ Aside0 (kq ≤ k) ∧ Aside0 (Kd.R (Kd.int .u8) 5 wc w.heap.size (fun _ => True) v222 x4_3) ∧ Aside0 (wc.heap[gb219]? = some (.cells #[.bool a0_0, (.slice A0_1 l0_1.length c0_1), (.slice A0_2 l0_2.length c0_2)] 46 (0, 0))) ∧ Aside0 (Below w.heap.size w wc))
    case first =>
      have H := HC4.out
      clear HC4
      by_cases c12 : a0_0 = true
      · subst c12
        have H1 : (if 3 < (y221.length : Int) then (tinctureref7_PutPolicy.j0 k (y221.set (3 : Int).toNat 1) true l0_1 l0_2) else (none)) = some (r1, r2) := by rw [if_pos rfl] at H; exact H
        clear H
        have H := H1
        clear H1
        by_cases c13 : 3 < (y221.length : Int)
        · rw [if_pos c13] at H
          have c13b0 : decide (3 < (y221.length : Int)) = true := decide_eq_true c13
          have c13b1 : decide (3 < y221.length) = true := decide_eq_true (by omega)
          clear c13
          (first | rw [c13b0] | (simp only [i64_w, i32_w]; rw [c13b0]) | skip)
          obtain ⟨y224, hy224⟩ : ∃ y_ : List Int, y_ = (y221.set (3 : Int).toNat 1) := ⟨_, rfl⟩
          replace H : (tinctureref7_PutPolicy.j0 k y224 true l0_1 l0_2) = some (r1, r2) := by first | (rw [hy224]; with_reducible exact H) | (have H2_ := (Option.bind_some _ _).symm.trans H; rw [hy224]; with_reducible exact H2_) | (have H2_ := (Option.bind_some _ _).symm.trans H; with_reducible exact H2_) | with_reducible exact H | (rw [hy224]; exact H) | exact H
          have Ny224 := Aside0.mk hy224
          clear hy224
          have H' := Aside0.mk H
          clear H
          have p14 : 0 ≤ (3 : Int) := (by omega)
          have q14 : (3 : Int) < ((y221.length : Int) : Int) := of_decide_eq_true (by first | (with_reducible assumption) | assumption)
          have qi14 : (3 < y221.length) = True := eq_true (by omega)
          obtain ⟨go14, co14, eo14, gb14, gl14, cl14, HG14⟩ := Kd.R_form HO223.out (by omega)
          (first | cases eo14 | (injection eo14 with ea_ en_ ec_; (first | subst ea_ | (injection ea_ with ea_; subst ea_)); subst ec_; clear en_))
          have GB14 := Aside0.mk gb14
          have GG14 := Aside0.mk HG14
          clear gb14 gl14 HG14
          obtain ⟨hx14_0, hf14_0⟩ := Kd.R_celln 0 HO223.out (3 : Int) p14 q14
          (try rw [show ((3 : Int)).toNat = 3 from rfl] at hx14_0)
          (try simp only [Nat.reduceMul, Nat.zero_mul, Nat.zero_add, Nat.reduceAdd] at hx14_0)
          (try rw [show ((3 : Int)).toNat = 3 from rfl] at hf14_0)
          (try simp only [Nat.reduceMul, Nat.zero_mul, Nat.zero_add, Nat.reduceAdd] at hf14_0)
          replace p14 := eq_true p14
          replace q14 := eq_true q14
          have HP15 := Kd.R_putg HO223.out (3 : Int) 1
          go_wp2_with (first | ((with_reducible refine gate_store (t := 5) (p := 19) rfl ?_); refine store_event (t := 5) (p := 19) (v := ?vo_w16) (w1 := (w9.setCell ⟨go14, (3 : Int).toNat, none⟩ (.int .u8 1))) ?hg ?ho ?hn ?hr ?_; (case ho => rfl); (case hg => rfl); (case hn => rfl); (case hr => first | (go_simp; done) | (go_simp; rfl)); intro w16 hw; have hg : w9.grownBy w16 (some go14) := (by rw [hw]; exact HP15.2); have hp_ : Kd.R (Kd.int .u8) 5 w16 w.heap.size (fun _ => True) (.slice (some ⟨go14, 0, none⟩) y221.length co14) y224 := (by rw [hw, Ny224.out]; exact HP15.1); clear HP15; have n0_ := Aside0.mk (blk_grown (g := gb219) (o := .cells #[.bool true, .slice A0_1 l0_1.length c0_1, .slice A0_2 l0_2.length c0_2] 46 (0, 0)) (by (with_reducible repeat (first | refine blk_drewN ?_ _ | refine blk_drew ?_ | refine blk_alloc ?_ _)); exact BK219.out) hg (Kd.R_ne HO223.out BK219.out (by decide))); have n1_ := Aside0.mk (hp_); have n2_ := Aside0.mk ((by rw [hw]; exact below_set (HB.out) GB14.out : Below w.heap.size w w16)); clear BK219; clear HO223; clear HB; have BK219 := n0_; have HO223 := n1_; have HB := n2_; clear n0_ n1_ n2_; clear hg hw hp_))
          go_meet
          case rel => exact ⟨_, (y224), H', ⟨by first | omega | exact Nat.le_refl _⟩, ⟨by (with_reducible repeat (first | apply Kd.R_alloc | apply Kd.R_drewN | apply Kd.R_drew)); exact HO223.out⟩, ⟨by (with_reducible repeat (first | refine blk_drewN ?_ _ | refine blk_drew ?_ | refine blk_alloc ?_ _)); exact BK219.out⟩, ⟨by repeat (first | (with_reducible first | exact HB.out | apply below_alloc | apply pw_below_drewN | apply below_drew1 | refine below_set ?_ GE219.out) | exact HB.out)⟩⟩
        · rw [if_neg c13] at H
          exact absurd H (by simp)
      · replace c12 := Bool.eq_false_iff.mpr c12
        subst c12
        have H1 : (tinctureref7_PutPolicy.j0 k y221 false l0_1 l0_2) = some (r1, r2) := by rw [if_neg (show ¬ (false = true) by decide)] at H; exact H
        clear H
        have H := H1
        clear H1
        have H' := Aside0.mk H
        clear H
        go_wp2
        go_meet
        case rel => exact ⟨_, (y221), H', ⟨by first | omega | exact Nat.le_refl _⟩, ⟨by (with_reducible repeat (first | apply Kd.R_alloc | apply Kd.R_drewN | apply Kd.R_drew)); exact HO223.out⟩, ⟨by (with_reducible repeat (first | refine blk_drewN ?_ _ | refine blk_drew ?_ | refine blk_alloc ?_ _)); exact BK219.out⟩, ⟨by repeat (first | (with_reducible first | exact HB.out | apply below_alloc | apply pw_below_drewN | apply below_drew1 | refine below_set ?_ GE219.out) | exact HB.out)⟩⟩
    case rest =>
      clear HC4
      try clear c1
      try clear p1
      try clear q1
      try clear hx1
      try clear qi1
      try clear hf1
      try clear c2
      try clear p2
      try clear c3
      try clear c12
      try clear c13
      try clear c13b0
      try clear c13b1
      try clear p14
      try clear q14
      try clear hx14
      try clear qi14
      try clear hf14
      try clear hcz11_0
      try clear hcz11_1
      try clear hcz11_2
      try clear hcz6_0
      try clear hcz6_1
      try clear hcz6_2
      try clear hcz8_0
      try clear hcz8_1
      try clear hcz8_2
      try clear hfz11_0
      try clear hfz11_1
      try clear hfz11_2
      try clear hfz6_0
      try clear hfz6_1
      try clear hfz6_2
      try clear hfz8_0
      try clear hfz8_1
      try clear hfz8_2
      try clear hx14_0
      try clear p14
      try clear q14
      obtain ⟨kq, x4_3, HA, HJ3, HO_4, BK219, HB⟩ := hcut
      cases kq with
      | zero => exact absurd HA.out (by simp [tinctureref7_PutPolicy.j0])
      | succ kj3 =>
        have H := HA.out
        clear HA
        simp only [tinctureref7_PutPolicy.j0] at H
        have H' := Aside0.mk H
        clear H
        go_wp2
        go_loopg [4, 5] kj3 (fun kq v4 v5 w' => ∃ (x4_2 : List Int) (x5_2 : Int), v5 = .int .i64 x5_2 ∧ Aside0 (tinctureref7_PutPolicy.l0 kq x4_2 x5_2 a0_0 l0_1 l0_2 = some (r1, r2)) ∧ Aside0 (kq ≤ kj3) ∧ Aside0 (Kd.R (Kd.int .u8) 5 w' w.heap.size (fun _ => True) v4 x4_2) ∧ Aside0 (w'.heap[gb219]? = some (.cells #[.bool a0_0, (.slice A0_1 l0_1.length c0_1), (.slice A0_2 l0_2.length c0_2)] 46 (0, 0))) ∧ Aside0 (Below w.heap.size w w'))
        case atStart => exact ⟨(x4_3), (0), (by first | rfl | (simp; done) | (simp [*]; done)), H', ⟨Nat.le_refl _⟩, ⟨by (with_reducible repeat (first | apply Kd.R_alloc | apply Kd.R_drewN | apply Kd.R_drew)); exact HO_4.out⟩, ⟨by (with_reducible repeat (first | refine blk_drewN ?_ _ | refine blk_drew ?_ | refine blk_alloc ?_ _)); exact BK219.out⟩, ⟨by repeat (first | (with_reducible first | exact HB.out | apply below_alloc | apply pw_below_drewN | apply below_drew1 | refine below_set ?_ GE219.out) | exact HB.out)⟩⟩
        case round =>
          clear H'
          try clear c1
          try clear p1
          try clear q1
          try clear hx1
          try clear qi1
          try clear hf1
          try clear c2
          try clear p2
          try clear c3
          try clear c12
          try clear c13
          try clear c13b0
          try clear c13b1
          try clear p14
          try clear q14
          try clear hx14
          try clear qi14
          try clear hf14
          try clear hcz11_0
          try clear hcz11_1
          try clear hcz11_2
          try clear hcz6_0
          try clear hcz6_1
          try clear hcz6_2
          try clear hcz8_0
          try clear hcz8_1
          try clear hcz8_2
          try clear hfz11_0
          try clear hfz11_1
          try clear hfz11_2
          try clear hfz6_0
          try clear hfz6_1
          try clear hfz6_2
          try clear hfz8_0
          try clear hfz8_1
          try clear hfz8_2
          try clear hx14_0
          try clear p1
          try clear p14
          try clear p2
          try clear q1
          try clear q14
          obtain ⟨x4_2, x5_2, rfl, HA, HK2, HO_4, BK219, HB⟩ := hrel
          cases gk with
          | zero => exact absurd HA.out (by simp [tinctureref7_PutPolicy.l0])
          | succ k2 =>
            have H := HA.out
            clear HA
            simp only [tinctureref7_PutPolicy.l0] at H
            by_cases c17 : x5_2 < (l0_1.length : Int)
            · rw [if_pos c17] at H
              have c17b0 : decide (x5_2 < (l0_1.length : Int)) = true := decide_eq_true c17
              clear c17
              by_cases c18 : 0 ≤ x5_2
              · rw [if_pos c18] at H
                have c18b0 : decide (0 ≤ x5_2) = true := decide_eq_true c18
                clear c18
                obtain ⟨y227, hy227⟩ : ∃ y_ : List Int, y_ = (([((rd_T70 l0_1 x5_2).f0) % 256] : List Int)) := ⟨_, rfl⟩
                replace H : (if x4_2.length + y227.length < 140737488355328 then ((tinctureref7_W32.f (x4_2 ++ y227) ((rd_T70 l0_1 x5_2).f1)).bind fun t233 => ((tinctureref7_W32.f t233 ((rd_T70 l0_1 x5_2).f2)).bind fun t236 => ((some (([(rd_T70 l0_1 x5_2).f3] : List Int) : List Int)).bind fun y239 => (if t236.length + y239.length < 140737488355328 then (tinctureref7_PutPolicy.l0 k2 (t236 ++ y239) (wrap64 (x5_2 + 1)) a0_0 l0_1 l0_2) else (none))))) else (none)) = some (r1, r2) := by first | (rw [hy227]; with_reducible exact H) | (have H2_ := (Option.bind_some _ _).symm.trans H; rw [hy227]; with_reducible exact H2_) | (have H2_ := (Option.bind_some _ _).symm.trans H; with_reducible exact H2_) | with_reducible exact H | (rw [hy227]; exact H) | exact H
                have Ny227 := Aside0.mk hy227
                clear hy227
                by_cases c19 : x4_2.length + y227.length < 140737488355328
                · rw [if_pos c19] at H
                  have LMc19 := Aside0.mk c19
                  clear c19
                  obtain ⟨y230, hy230⟩ : ∃ y_ : List Int, y_ = (x4_2 ++ y227) := ⟨_, rfl⟩
                  replace H : ((tinctureref7_W32.f y230 ((rd_T70 l0_1 x5_2).f1)).bind fun t233 => ((tinctureref7_W32.f t233 ((rd_T70 l0_1 x5_2).f2)).bind fun t236 => ((some (([(rd_T70 l0_1 x5_2).f3] : List Int) : List Int)).bind fun y239 => (if t236.length + y239.length < 140737488355328 then (tinctureref7_PutPolicy.l0 k2 (t236 ++ y239) (wrap64 (x5_2 + 1)) a0_0 l0_1 l0_2) else (none))))) = some (r1, r2) := by first | (rw [hy230]; with_reducible exact H) | (have H2_ := (Option.bind_some _ _).symm.trans H; rw [hy230]; with_reducible exact H2_) | (have H2_ := (Option.bind_some _ _).symm.trans H; with_reducible exact H2_) | with_reducible exact H | (rw [hy230]; exact H) | exact H
                  have Ny230 := Aside0.mk hy230
                  clear hy230
                  replace H := Option.bind_eq_some_iff.mp H
                  obtain ⟨t233, A200, H⟩ := H
                  replace H : ((tinctureref7_W32.f t233 ((rd_T70 l0_1 x5_2).f2)).bind fun t236 => ((some (([(rd_T70 l0_1 x5_2).f3] : List Int) : List Int)).bind fun y239 => (if t236.length + y239.length < 140737488355328 then (tinctureref7_PutPolicy.l0 k2 (t236 ++ y239) (wrap64 (x5_2 + 1)) a0_0 l0_1 l0_2) else (none)))) = some (r1, r2) := H
                  have A20 := Aside0.mk A200
                  clear A200
                  replace H := Option.bind_eq_some_iff.mp H
                  obtain ⟨t236, A210, H⟩ := H
                  replace H : ((some (([(rd_T70 l0_1 x5_2).f3] : List Int) : List Int)).bind fun y239 => (if t236.length + y239.length < 140737488355328 then (tinctureref7_PutPolicy.l0 k2 (t236 ++ y239) (wrap64 (x5_2 + 1)) a0_0 l0_1 l0_2) else (none))) = some (r1, r2) := H
                  have A21 := Aside0.mk A210
                  clear A210
                  obtain ⟨y239, hy239⟩ : ∃ y_ : List Int, y_ = (([(rd_T70 l0_1 x5_2).f3] : List Int)) := ⟨_, rfl⟩
                  replace H : (if t236.length + y239.length < 140737488355328 then (tinctureref7_PutPolicy.l0 k2 (t236 ++ y239) (wrap64 (x5_2 + 1)) a0_0 l0_1 l0_2) else (none)) = some (r1, r2) := by first | (rw [hy239]; with_reducible exact H) | (have H2_ := (Option.bind_some _ _).symm.trans H; rw [hy239]; with_reducible exact H2_) | (have H2_ := (Option.bind_some _ _).symm.trans H; with_reducible exact H2_) | with_reducible exact H | (rw [hy239]; exact H) | exact H
                  have Ny239 := Aside0.mk hy239
                  clear hy239
                  by_cases c22 : t236.length + y239.length < 140737488355328
                  · rw [if_pos c22] at H
                    have LMc22 := Aside0.mk c22
                    clear c22
                    obtain ⟨y242, hy242⟩ : ∃ y_ : List Int, y_ = (t236 ++ y239) := ⟨_, rfl⟩
                    replace H : (tinctureref7_PutPolicy.l0 k2 y242 (wrap64 (x5_2 + 1)) a0_0 l0_1 l0_2) = some (r1, r2) := by first | (rw [hy242]; with_reducible exact H) | (have H2_ := (Option.bind_some _ _).symm.trans H; rw [hy242]; with_reducible exact H2_) | (have H2_ := (Option.bind_some _ _).symm.trans H; with_reducible exact H2_) | with_reducible exact H | (rw [hy242]; exact H) | exact H
                    have Ny242 := Aside0.mk hy242
                    clear hy242
                    have H' := Aside0.mk H
                    clear H
                    have hcz23_0 : wr.cell? ⟨gb219, 0, none⟩ = some (.bool a0_0) := (blk_cell BK219.out 0).trans rfl
                    have hcz23_1 : wr.cell? ⟨gb219, 1, none⟩ = some (.slice A0_1 l0_1.length c0_1) := (blk_cell BK219.out 1).trans rfl
                    have hcz23_2 : wr.cell? ⟨gb219, 2, none⟩ = some (.slice A0_2 l0_2.length c0_2) := (blk_cell BK219.out 2).trans rfl
                    have hfz23_0 := blk_frozen BK219.out 0
                    have hfz23_1 := blk_frozen BK219.out 1
                    have hfz23_2 := blk_frozen BK219.out 2
                    have p225 : 0 ≤ (x5_2 : Int) := of_decide_eq_true (by first | (with_reducible assumption) | assumption)
                    have q225 : x5_2 < (l0_1.length : Int) := of_decide_eq_true (by first | (with_reducible assumption) | assumption)
                    obtain ⟨ad225, e225, hx225_0, hx225_1, hx225_2, hx225_3⟩ := at_T70 HR0_1.out x5_2 p225 q225
                    cases e225
                    replace hx225_0 := (HB.out.cell (World.block_lt_of_cell? w _ hx225_0)).trans hx225_0
                    replace hx225_1 := (HB.out.cell (World.block_lt_of_cell? w _ hx225_1)).trans hx225_1
                    replace hx225_2 := (HB.out.cell (World.block_lt_of_cell? w _ hx225_2)).trans hx225_2
                    replace hx225_3 := (HB.out.cell (World.block_lt_of_cell? w _ hx225_3)).trans hx225_3
                    replace p225 := eq_true p225
                    replace q225 := eq_true q225
                    try go_wp2_with (first | ((with_reducible refine gate_dst (N := 6) rfl ?_); refine box_event ?hg (N := 6) ?hd (cs := #[.int .i64 0, .int .u32 0, .int .u32 0, .int .u8 0]) (t := 70) ?hr ?_; (case hd => rfl); (case hg => rfl); (case hr => first | (go_simp; done) | (go_simp; rfl)); intro gb226 hg w24 hbox hb; have n0_ := Aside0.mk (Kd.R_below (by (with_reducible repeat (first | apply Kd.R_alloc | apply Kd.R_drewN | apply Kd.R_drew)); exact HO_4.out) hb); have n1_ := Aside0.mk (blk_below (g := gb219) (o := .cells #[.bool a0_0, .slice (some ad225) l0_1.length c0_1, .slice A0_2 l0_2.length c0_2] 46 (0, 0)) (by (with_reducible repeat (first | refine blk_drewN ?_ _ | refine blk_drew ?_ | refine blk_alloc ?_ _)); exact BK219.out) hb); have n2_ := Aside0.mk (below_step (by repeat (first | (with_reducible first | exact HB.out | apply below_alloc | apply pw_below_drewN | apply below_drew1 | refine below_set ?_ GE219.out) | exact HB.out)) hb); have n3_ := Aside0.mk (hbox); have n4_ := Aside0.mk ((by rw [hg]; exact (below_size (by repeat (first | (with_reducible first | exact HB.out | apply below_alloc | apply pw_below_drewN | apply below_drew1 | refine below_set ?_ GE219.out) | exact HB.out))) : w.heap.size ≤ gb226)); have n5_ := Aside0.mk ((by rw [hg]; exact (below_size (by repeat (first | (with_reducible first | exact HB.out | apply below_alloc | apply pw_below_drewN | apply below_drew1 | refine below_set ?_ GE219.out) | exact HB.out))) : w.heap.size ≤ gb226)); have n6_ := Aside0.mk ((by rw [hg]; exact Nat.ne_of_lt (blk_lt (g := gb219) (o := .cells #[.bool a0_0, .slice (some ad225) l0_1.length c0_1, .slice A0_2 l0_2.length c0_2] 46 (0, 0)) (by (with_reducible repeat (first | refine blk_drewN ?_ _ | refine blk_drew ?_ | refine blk_alloc ?_ _)); exact BK219.out)) : gb219 ≠ gb226)); have n7_ := Aside0.mk ((by rw [hg]; exact Nat.ne_of_gt (blk_lt (g := gb219) (o := .cells #[.bool a0_0, .slice (some ad225) l0_1.length c0_1, .slice A0_2 l0_2.length c0_2] 46 (0, 0)) (by (with_reducible repeat (first | refine blk_drewN ?_ _ | refine blk_drew ?_ | refine blk_alloc ?_ _)); exact BK219.out)) : gb226 ≠ gb219)); clear HO_4; clear BK219; clear HB; have HO_4 := n0_; have BK219 := n1_; have HB := n2_; have BK226 := n3_; have GW226 := n4_; have GE226 := n5_; have NB219_226 := n6_; have NB226_219 := n7_; clear n0_ n1_ n2_ n3_ n4_ n5_ n6_ n7_; clear hb hbox hg; have hnb25 := NB226_219.out; have hnc25 := NB219_226.out; have hcz26_0 : w24.cell? ⟨gb226, 0, none⟩ = some (.int .i64 0) := (blk_cell BK226.out 0).trans rfl; have hcz26_1 : w24.cell? ⟨gb226, 1, none⟩ = some (.int .u32 0) := (blk_cell BK226.out 1).trans rfl; have hcz26_2 : w24.cell? ⟨gb226, 2, none⟩ = some (.int .u32 0) := (blk_cell BK226.out 2).trans rfl; have hcz26_3 : w24.cell? ⟨gb226, 3, none⟩ = some (.int .u8 0) := (blk_cell BK226.out 3).trans rfl; have hfz26_0 := blk_frozen BK226.out 0; have hfz26_1 := blk_frozen BK226.out 1; have hfz26_2 := blk_frozen BK226.out 2; have hfz26_3 := blk_frozen BK226.out 3; obtain ⟨Ao27, co27, eo27⟩ := Kd.R_slice HO_4.out; subst eo27))
                    have n0_ : Aside0 (Kd.R (Kd.int .u8) 5 ((((w24.setCell ⟨gb226, 0, none⟩ (.int .i64 ((rd_T70 l0_1 x5_2).f0))).setCell ⟨gb226, 1, none⟩ (.int .u32 ((rd_T70 l0_1 x5_2).f1))).setCell ⟨gb226, 2, none⟩ (.int .u32 ((rd_T70 l0_1 x5_2).f2))).setCell ⟨gb226, 3, none⟩ (.int .u8 ((rd_T70 l0_1 x5_2).f3))) w.heap.size (fun _ => True) (.slice Ao27 x4_2.length co27) x4_2) := ⟨by (with_reducible repeat (first | apply Kd.R_alloc | apply Kd.R_drewN | apply Kd.R_drew)); exact Kd.R_mono (Kd.R_far (p := ⟨gb226, 3, none⟩) (Kd.R_far (p := ⟨gb226, 2, none⟩) (Kd.R_far (p := ⟨gb226, 1, none⟩) (Kd.R_far (p := ⟨gb226, 0, none⟩) (Kd.R_types HO_4.out BK226.out (by decide)) (fun _ hk => hk.2) (.int .i64 ((rd_T70 l0_1 x5_2).f0))) (fun _ hk => hk.2) (.int .u32 ((rd_T70 l0_1 x5_2).f1))) (fun _ hk => hk.2) (.int .u32 ((rd_T70 l0_1 x5_2).f2))) (fun _ hk => hk.2) (.int .u8 ((rd_T70 l0_1 x5_2).f3))) (fun _ hk => trivial)⟩
                    have n1_ : Aside0 (((((w24.setCell ⟨gb226, 0, none⟩ (.int .i64 ((rd_T70 l0_1 x5_2).f0))).setCell ⟨gb226, 1, none⟩ (.int .u32 ((rd_T70 l0_1 x5_2).f1))).setCell ⟨gb226, 2, none⟩ (.int .u32 ((rd_T70 l0_1 x5_2).f2))).setCell ⟨gb226, 3, none⟩ (.int .u8 ((rd_T70 l0_1 x5_2).f3))).heap[gb219]? = some (.cells #[.bool a0_0, .slice (some ad225) l0_1.length c0_1, .slice A0_2 l0_2.length c0_2] 46 (0, 0))) := ⟨by (with_reducible repeat (first | refine blk_drewN ?_ _ | refine blk_drew ?_ | refine blk_alloc ?_ _)); refine blk_far ?_ NB219_226.out _; (with_reducible repeat (first | refine blk_drewN ?_ _ | refine blk_drew ?_ | refine blk_alloc ?_ _)); refine blk_far ?_ NB219_226.out _; (with_reducible repeat (first | refine blk_drewN ?_ _ | refine blk_drew ?_ | refine blk_alloc ?_ _)); refine blk_far ?_ NB219_226.out _; (with_reducible repeat (first | refine blk_drewN ?_ _ | refine blk_drew ?_ | refine blk_alloc ?_ _)); refine blk_far ?_ NB219_226.out _; (with_reducible repeat (first | refine blk_drewN ?_ _ | refine blk_drew ?_ | refine blk_alloc ?_ _)); exact BK219.out⟩
                    have n2_ : Aside0 (((((w24.setCell ⟨gb226, 0, none⟩ (.int .i64 ((rd_T70 l0_1 x5_2).f0))).setCell ⟨gb226, 1, none⟩ (.int .u32 ((rd_T70 l0_1 x5_2).f1))).setCell ⟨gb226, 2, none⟩ (.int .u32 ((rd_T70 l0_1 x5_2).f2))).setCell ⟨gb226, 3, none⟩ (.int .u8 ((rd_T70 l0_1 x5_2).f3))).heap[gb226]? = some (.cells #[.int .i64 ((rd_T70 l0_1 x5_2).f0), .int .u32 ((rd_T70 l0_1 x5_2).f1), .int .u32 ((rd_T70 l0_1 x5_2).f2), .int .u8 ((rd_T70 l0_1 x5_2).f3)] 70 (0, 0))) := ⟨by (with_reducible repeat (first | refine blk_drewN ?_ _ | refine blk_drew ?_ | refine blk_alloc ?_ _)); refine blk_put (cs := #[.int .i64 ((rd_T70 l0_1 x5_2).f0), .int .u32 ((rd_T70 l0_1 x5_2).f1), .int .u32 ((rd_T70 l0_1 x5_2).f2), .int .u8 0]) ?_ 3 _ rfl; (with_reducible repeat (first | refine blk_drewN ?_ _ | refine blk_drew ?_ | refine blk_alloc ?_ _)); refine blk_put (cs := #[.int .i64 ((rd_T70 l0_1 x5_2).f0), .int .u32 ((rd_T70 l0_1 x5_2).f1), .int .u32 0, .int .u8 0]) ?_ 2 _ rfl; (with_reducible repeat (first | refine blk_drewN ?_ _ | refine blk_drew ?_ | refine blk_alloc ?_ _)); refine blk_put (cs := #[.int .i64 ((rd_T70 l0_1 x5_2).f0), .int .u32 0, .int .u32 0, .int .u8 0]) ?_ 1 _ rfl; (with_reducible repeat (first | refine blk_drewN ?_ _ | refine blk_drew ?_ | refine blk_alloc ?_ _)); refine blk_put (cs := #[.int .i64 0, .int .u32 0, .int .u32 0, .int .u8 0]) ?_ 0 _ rfl; (with_reducible repeat (first | refine blk_drewN ?_ _ | refine blk_drew ?_ | refine blk_alloc ?_ _)); exact BK226.out⟩
                    have n3_ : Aside0 (Below w.heap.size w ((((w24.setCell ⟨gb226, 0, none⟩ (.int .i64 ((rd_T70 l0_1 x5_2).f0))).setCell ⟨gb226, 1, none⟩ (.int .u32 ((rd_T70 l0_1 x5_2).f1))).setCell ⟨gb226, 2, none⟩ (.int .u32 ((rd_T70 l0_1 x5_2).f2))).setCell ⟨gb226, 3, none⟩ (.int .u8 ((rd_T70 l0_1 x5_2).f3)))) := ⟨by repeat (first | (with_reducible first | exact HB.out | apply below_alloc | apply pw_below_drewN | apply below_drew1 | refine below_set ?_ GE219.out | refine below_set ?_ GE226.out) | exact HB.out)⟩
                    (try clear HO_4)
                    (try clear BK219)
                    (try clear BK226)
                    (try clear HB)
                    generalize ((((w24.setCell ⟨gb226, 0, none⟩ (.int .i64 ((rd_T70 l0_1 x5_2).f0))).setCell ⟨gb226, 1, none⟩ (.int .u32 ((rd_T70 l0_1 x5_2).f1))).setCell ⟨gb226, 2, none⟩ (.int .u32 ((rd_T70 l0_1 x5_2).f2))).setCell ⟨gb226, 3, none⟩ (.int .u8 ((rd_T70 l0_1 x5_2).f3))) = w28 at n0_ n1_ n2_ n3_ ⊢
                    have HO_4 := n0_
                    have BK219 := n1_
                    have BK226 := n2_
                    have HB := n3_
                    clear n0_ n1_ n2_ n3_
                    have n0_ := Aside0.mk (Kd.R_drew HO_4.out)
                    have n1_ := Aside0.mk (blk_drew BK219.out)
                    have n2_ := Aside0.mk (blk_drew BK226.out)
                    have n3_ := Aside0.mk (below_drew1 HB.out)
                    clear HO_4
                    clear BK219
                    clear BK226
                    clear HB
                    have HO_4 := n0_
                    have BK219 := n1_
                    have BK226 := n2_
                    have HB := n3_
                    clear n0_ n1_ n2_ n3_
                    refine start_ (n := 17) (S := fun w' => w'.cell? ⟨gb226, 0, none⟩ = some (.int .i64 ((rd_T70 l0_1 x5_2).f0)) ∧ w'.cell? ⟨gb226, 1, none⟩ = some (.int .u32 ((rd_T70 l0_1 x5_2).f1)) ∧ w'.cell? ⟨gb226, 2, none⟩ = some (.int .u32 ((rd_T70 l0_1 x5_2).f2)) ∧ w'.cell? ⟨gb226, 3, none⟩ = some (.int .u8 ((rd_T70 l0_1 x5_2).f3))) (ds := []) #[false, false, false, false, false, false, false, false, false, false, false, false, false, false, false, false, false] (by kernel_rfl) rfl rfl ⟨(blk_cell BK226.out 0).trans rfl, (blk_cell BK226.out 1).trans rfl, (blk_cell BK226.out 2).trans rfl, (blk_cell BK226.out 3).trans rfl⟩ (fun hHeld => ?_); refine with_tabW tinctureref7_PutPolicy.tab10 tinctureref7_PutPolicy.bits10 (fun HT_ HW_ => ?_)
                    generalize w28.drew = w29 at HO_4 BK219 BK226 HB hHeld ⊢
                    refine pure_ (i := 0) (N := some 32) (v := ?_) (a' := ?_) #[true, false, false, false, false, false, false, false, false, false, false, false, false, false, false, false, false] rfl rfl (any_of HT_.out (by kernel_rfl)) (fun _ _ _ h => h) (Or.inl ⟨by rfl, ?_⟩) ?_ ?_
                    rotate_left
                    · intro w'
                      go_simp
                      with_reducible rfl
                    rotate_left
                    · simp only [Act.put, List.setIfInBounds_toArray, List.set_cons_zero, List.set_cons_succ, i64_w, i32_w]
                      rfl
                    refine pure_ (i := 1) (N := some 33) (v := ?_) (a' := ?_) #[true, true, false, false, false, false, false, false, false, false, false, false, false, false, false, false, false] rfl rfl (any_of HT_.out (by kernel_rfl)) (fun _ _ _ h => h) (Or.inl ⟨by rfl, ?_⟩) ?_ ?_
                    rotate_left
                    · intro w'
                      go_simp
                      with_reducible rfl
                    rotate_left
                    · simp only [Act.put, List.setIfInBounds_toArray, List.set_cons_zero, List.set_cons_succ, i64_w, i32_w]
                      rfl
                    refine pure_ (i := 6) (N := some 38) (v := ?_) (a' := ?_) #[true, true, false, false, false, false, true, false, false, false, false, false, false, false, false, false, false] rfl rfl (any_of HT_.out (by kernel_rfl)) (fun _ _ _ h => h) (Or.inl ⟨by rfl, ?_⟩) ?_ ?_
                    rotate_left
                    · intro w'
                      go_simp
                      with_reducible rfl
                    rotate_left
                    · simp only [Act.put, List.setIfInBounds_toArray, List.set_cons_zero, List.set_cons_succ, i64_w, i32_w]
                      rfl
                    refine pure_ (i := 9) (N := some 41) (v := ?_) (a' := ?_) #[true, true, false, false, false, false, true, false, false, true, false, false, false, false, false, false, false] rfl rfl (any_of HT_.out (by kernel_rfl)) (fun _ _ _ h => h) (Or.inl ⟨by rfl, ?_⟩) ?_ ?_
                    rotate_left
                    · intro w'
                      go_simp
                      with_reducible rfl
                    rotate_left
                    · simp only [Act.put, List.setIfInBounds_toArray, List.set_cons_zero, List.set_cons_succ, i64_w, i32_w]
                      rfl
                    refine pure_ (i := 12) (N := some 44) (v := ?_) (a' := ?_) #[true, true, false, false, false, false, true, false, false, true, false, false, true, false, false, false, false] rfl rfl (any_of HT_.out (by kernel_rfl)) (fun _ _ _ h => h) (Or.inl ⟨by rfl, ?_⟩) ?_ ?_
                    rotate_left
                    · intro w'
                      go_simp
                      with_reducible rfl
                    rotate_left
                    · simp only [Act.put, List.setIfInBounds_toArray, List.set_cons_zero, List.set_cons_succ, i64_w, i32_w]
                      rfl
                    refine take_ (i := 2) (N := some 34) (v := ?_) (a' := ?_) #[true, true, true, false, false, false, true, false, false, true, false, false, true, false, false, false, false] rfl rfl (take_ofW HT_.out HW_.out (by kernel_rfl)) (fun _ _ _ h => h) (Or.inl ⟨by rfl, ?_⟩) hHeld ?_ ?_
                    rotate_left
                    · rintro w' ⟨s0, s1, s2, s3⟩
                      go_simp
                      with_reducible rfl
                    rotate_left
                    · simp only [Act.put, List.setIfInBounds_toArray, List.set_cons_zero, List.set_cons_succ, i64_w, i32_w]
                      rfl
                    refine pure_ (i := 3) (N := some 35) (v := ?_) (a' := ?_) #[true, true, true, true, false, false, true, false, false, true, false, false, true, false, false, false, false] rfl rfl (any_of HT_.out (by kernel_rfl)) (fun _ _ _ h => h) (Or.inl ⟨by rfl, ?_⟩) ?_ ?_
                    rotate_left
                    · intro w'
                      go_simp
                      with_reducible rfl
                    rotate_left
                    · simp only [Act.put, List.setIfInBounds_toArray, List.set_cons_zero, List.set_cons_succ, i64_w, i32_w]
                      rfl
                    refine take_ (i := 7) (N := some 39) (v := ?_) (a' := ?_) #[true, true, true, true, false, false, true, true, false, true, false, false, true, false, false, false, false] rfl rfl (take_ofW HT_.out HW_.out (by kernel_rfl)) (fun _ _ _ h => h) (Or.inl ⟨by rfl, ?_⟩) hHeld ?_ ?_
                    rotate_left
                    · rintro w' ⟨s0, s1, s2, s3⟩
                      go_simp
                      with_reducible rfl
                    rotate_left
                    · simp only [Act.put, List.setIfInBounds_toArray, List.set_cons_zero, List.set_cons_succ, i64_w, i32_w]
                      rfl
                    refine take_ (i := 10) (N := some 42) (v := ?_) (a' := ?_) #[true, true, true, true, false, false, true, true, false, true, true, false, true, false, false, false, false] rfl rfl (take_ofW HT_.out HW_.out (by kernel_rfl)) (fun _ _ _ h => h) (Or.inl ⟨by rfl, ?_⟩) hHeld ?_ ?_
                    rotate_left
                    · rintro w' ⟨s0, s1, s2, s3⟩
                      go_simp
                      with_reducible rfl
                    rotate_left
                    · simp only [Act.put, List.setIfInBounds_toArray, List.set_cons_zero, List.set_cons_succ, i64_w, i32_w]
                      rfl
                    refine take_ (i := 13) (N := some 45) (v := ?_) (a' := ?_) #[true, true, true, true, false, false, true, true, false, true, true, false, true, true, false, false, false] rfl rfl (take_ofW HT_.out HW_.out (by kernel_rfl)) (fun _ _ _ h => h) (Or.inl ⟨by rfl, ?_⟩) hHeld ?_ ?_
                    rotate_left
                    · rintro w' ⟨s0, s1, s2, s3⟩
                      go_simp
                      with_reducible rfl
                    rotate_left
                    · simp only [Act.put, List.setIfInBounds_toArray, List.set_cons_zero, List.set_cons_succ, i64_w, i32_w]
                      rfl
                    refine join_ (σ := Value × Value × Value × Value × Value) 2 #[true, true, true, true, true, true, true, true, true, true, true, true, true, true, true, false, false] (fun s_ => [(36, s_.1), (37, s_.2.1), (40, s_.2.2.1), (43, s_.2.2.2.1), (46, s_.2.2.2.2)]) (fun s_ w' => (w'.cell? ⟨gb226, 0, none⟩ = some (.int .i64 ((rd_T70 l0_1 x5_2).f0)) ∧ w'.cell? ⟨gb226, 1, none⟩ = some (.int .u32 ((rd_T70 l0_1 x5_2).f1)) ∧ w'.cell? ⟨gb226, 2, none⟩ = some (.int .u32 ((rd_T70 l0_1 x5_2).f2)) ∧ w'.cell? ⟨gb226, 3, none⟩ = some (.int .u8 ((rd_T70 l0_1 x5_2).f3))) ∧ (Kd.R (Kd.int .u8) 5 w' w.heap.size (fun k_ => some k_ ≠ (s_.2.1 : Value).ownBlock ∧ some k_ ≠ (s_.2.2.1 : Value).ownBlock ∧ some k_ ≠ (s_.2.2.2.1 : Value).ownBlock ∧ some k_ ≠ (s_.2.2.2.2 : Value).ownBlock) s_.1 y227) ∧ (Kd.R (Kd.int .u8) 5 w' w.heap.size (fun k_ => some k_ ≠ (s_.1 : Value).ownBlock ∧ some k_ ≠ (s_.2.2.1 : Value).ownBlock ∧ some k_ ≠ (s_.2.2.2.1 : Value).ownBlock ∧ some k_ ≠ (s_.2.2.2.2 : Value).ownBlock) s_.2.1 y230) ∧ (Kd.R (Kd.int .u8) 5 w' w.heap.size (fun k_ => some k_ ≠ (s_.1 : Value).ownBlock ∧ some k_ ≠ (s_.2.1 : Value).ownBlock ∧ some k_ ≠ (s_.2.2.2.1 : Value).ownBlock ∧ some k_ ≠ (s_.2.2.2.2 : Value).ownBlock) s_.2.2.1 t233) ∧ (Kd.R (Kd.int .u8) 5 w' w.heap.size (fun k_ => some k_ ≠ (s_.1 : Value).ownBlock ∧ some k_ ≠ (s_.2.1 : Value).ownBlock ∧ some k_ ≠ (s_.2.2.1 : Value).ownBlock ∧ some k_ ≠ (s_.2.2.2.2 : Value).ownBlock) s_.2.2.2.1 t236) ∧ (Kd.R (Kd.int .u8) 5 w' w.heap.size (fun k_ => some k_ ≠ (s_.1 : Value).ownBlock ∧ some k_ ≠ (s_.2.1 : Value).ownBlock ∧ some k_ ≠ (s_.2.2.1 : Value).ownBlock ∧ some k_ ≠ (s_.2.2.2.1 : Value).ownBlock) s_.2.2.2.2 y239) ∧ (w'.heap[gb219]? = some (.cells #[.bool a0_0, .slice (some ad225) l0_1.length c0_1, .slice A0_2 l0_2.length c0_2] 46 (0, 0))) ∧ (w'.heap[gb226]? = some (.cells #[.int .i64 ((rd_T70 l0_1 x5_2).f0), .int .u32 ((rd_T70 l0_1 x5_2).f1), .int .u32 ((rd_T70 l0_1 x5_2).f2), .int .u8 ((rd_T70 l0_1 x5_2).f3)] 70 (0, 0))) ∧ (Below w.heap.size w w')) ?_ ?_
                    rotate_left
                    · intro hJ4_5_8_11_14
                      refine join_ (σ := Value × Value × Value × Value) 3 #[true, true, true, true, true, true, true, true, true, true, true, true, true, true, false, false, false] (fun s_ => [(36, s_.1), (37, s_.2.1), (40, s_.2.2.1), (43, s_.2.2.2)]) (fun s_ w' => (w'.cell? ⟨gb226, 0, none⟩ = some (.int .i64 ((rd_T70 l0_1 x5_2).f0)) ∧ w'.cell? ⟨gb226, 1, none⟩ = some (.int .u32 ((rd_T70 l0_1 x5_2).f1)) ∧ w'.cell? ⟨gb226, 2, none⟩ = some (.int .u32 ((rd_T70 l0_1 x5_2).f2)) ∧ w'.cell? ⟨gb226, 3, none⟩ = some (.int .u8 ((rd_T70 l0_1 x5_2).f3))) ∧ (Kd.R (Kd.int .u8) 5 w' w.heap.size (fun k_ => some k_ ≠ (s_.2.1 : Value).ownBlock ∧ some k_ ≠ (s_.2.2.1 : Value).ownBlock ∧ some k_ ≠ (s_.2.2.2 : Value).ownBlock) s_.1 y227) ∧ (Kd.R (Kd.int .u8) 5 w' w.heap.size (fun k_ => some k_ ≠ (s_.1 : Value).ownBlock ∧ some k_ ≠ (s_.2.2.1 : Value).ownBlock ∧ some k_ ≠ (s_.2.2.2 : Value).ownBlock) s_.2.1 y230) ∧ (Kd.R (Kd.int .u8) 5 w' w.heap.size (fun k_ => some k_ ≠ (s_.1 : Value).ownBlock ∧ some k_ ≠ (s_.2.1 : Value).ownBlock ∧ some k_ ≠ (s_.2.2.2 : Value).ownBlock) s_.2.2.1 t233) ∧ (Kd.R (Kd.int .u8) 5 w' w.heap.size (fun k_ => some k_ ≠ (s_.1 : Value).ownBlock ∧ some k_ ≠ (s_.2.1 : Value).ownBlock ∧ some k_ ≠ (s_.2.2.1 : Value).ownBlock) s_.2.2.2 t236) ∧ (w'.heap[gb219]? = some (.cells #[.bool a0_0, .slice (some ad225) l0_1.length c0_1, .slice A0_2 l0_2.length c0_2] 46 (0, 0))) ∧ (w'.heap[gb226]? = some (.cells #[.int .i64 ((rd_T70 l0_1 x5_2).f0), .int .u32 ((rd_T70 l0_1 x5_2).f1), .int .u32 ((rd_T70 l0_1 x5_2).f2), .int .u8 ((rd_T70 l0_1 x5_2).f3)] 70 (0, 0))) ∧ (Below w.heap.size w w')) ?_ ?_
                      rotate_left
                      · intro hJ4_5_8_11
                        refine join_ (σ := Value × Value × Value × Value) 3 #[true, true, true, true, true, true, true, true, true, true, true, false, true, true, true, false, false] (fun s_ => [(36, s_.1), (37, s_.2.1), (40, s_.2.2.1), (46, s_.2.2.2)]) (fun s_ w' => (w'.cell? ⟨gb226, 0, none⟩ = some (.int .i64 ((rd_T70 l0_1 x5_2).f0)) ∧ w'.cell? ⟨gb226, 1, none⟩ = some (.int .u32 ((rd_T70 l0_1 x5_2).f1)) ∧ w'.cell? ⟨gb226, 2, none⟩ = some (.int .u32 ((rd_T70 l0_1 x5_2).f2)) ∧ w'.cell? ⟨gb226, 3, none⟩ = some (.int .u8 ((rd_T70 l0_1 x5_2).f3))) ∧ (Kd.R (Kd.int .u8) 5 w' w.heap.size (fun k_ => some k_ ≠ (s_.2.1 : Value).ownBlock ∧ some k_ ≠ (s_.2.2.1 : Value).ownBlock ∧ some k_ ≠ (s_.2.2.2 : Value).ownBlock) s_.1 y227) ∧ (Kd.R (Kd.int .u8) 5 w' w.heap.size (fun k_ => some k_ ≠ (s_.1 : Value).ownBlock ∧ some k_ ≠ (s_.2.2.1 : Value).ownBlock ∧ some k_ ≠ (s_.2.2.2 : Value).ownBlock) s_.2.1 y230) ∧ (Kd.R (Kd.int .u8) 5 w' w.heap.size (fun k_ => some k_ ≠ (s_.1 : Value).ownBlock ∧ some k_ ≠ (s_.2.1 : Value).ownBlock ∧ some k_ ≠ (s_.2.2.2 : Value).ownBlock) s_.2.2.1 t233) ∧ (Kd.R (Kd.int .u8) 5 w' w.heap.size (fun k_ => some k_ ≠ (s_.1 : Value).ownBlock ∧ some k_ ≠ (s_.2.1 : Value).ownBlock ∧ some k_ ≠ (s_.2.2.1 : Value).ownBlock) s_.2.2.2 y239) ∧ (w'.heap[gb219]? = some (.cells #[.bool a0_0, .slice (some ad225) l0_1.length c0_1, .slice A0_2 l0_2.length c0_2] 46 (0, 0))) ∧ (w'.heap[gb226]? = some (.cells #[.int .i64 ((rd_T70 l0_1 x5_2).f0), .int .u32 ((rd_T70 l0_1 x5_2).f1), .int .u32 ((rd_T70 l0_1 x5_2).f2), .int .u8 ((rd_T70 l0_1 x5_2).f3)] 70 (0, 0))) ∧ (Below w.heap.size w w')) ?_ ?_
                        rotate_left
                        · intro hJ4_5_8_14
                          refine join_ (σ := Value × Value × Value) 4 #[true, true, true, true, true, true, true, true, true, true, true, false, true, true, false, false, false] (fun s_ => [(36, s_.1), (37, s_.2.1), (40, s_.2.2)]) (fun s_ w' => (w'.cell? ⟨gb226, 0, none⟩ = some (.int .i64 ((rd_T70 l0_1 x5_2).f0)) ∧ w'.cell? ⟨gb226, 1, none⟩ = some (.int .u32 ((rd_T70 l0_1 x5_2).f1)) ∧ w'.cell? ⟨gb226, 2, none⟩ = some (.int .u32 ((rd_T70 l0_1 x5_2).f2)) ∧ w'.cell? ⟨gb226, 3, none⟩ = some (.int .u8 ((rd_T70 l0_1 x5_2).f3))) ∧ (Kd.R (Kd.int .u8) 5 w' w.heap.size (fun k_ => some k_ ≠ (s_.2.1 : Value).ownBlock ∧ some k_ ≠ (s_.2.2 : Value).ownBlock) s_.1 y227) ∧ (Kd.R (Kd.int .u8) 5 w' w.heap.size (fun k_ => some k_ ≠ (s_.1 : Value).ownBlock ∧ some k_ ≠ (s_.2.2 : Value).ownBlock) s_.2.1 y230) ∧ (Kd.R (Kd.int .u8) 5 w' w.heap.size (fun k_ => some k_ ≠ (s_.1 : Value).ownBlock ∧ some k_ ≠ (s_.2.1 : Value).ownBlock) s_.2.2 t233) ∧ (w'.heap[gb219]? = some (.cells #[.bool a0_0, .slice (some ad225) l0_1.length c0_1, .slice A0_2 l0_2.length c0_2] 46 (0, 0))) ∧ (w'.heap[gb226]? = some (.cells #[.int .i64 ((rd_T70 l0_1 x5_2).f0), .int .u32 ((rd_T70 l0_1 x5_2).f1), .int .u32 ((rd_T70 l0_1 x5_2).f2), .int .u8 ((rd_T70 l0_1 x5_2).f3)] 70 (0, 0))) ∧ (Below w.heap.size w w')) ?_ ?_
                          rotate_left
                          · intro hJ4_5_8
                            refine join_ (σ := Value × Value × Value) 4 #[true, true, true, true, true, true, true, true, false, true, true, false, true, true, true, false, false] (fun s_ => [(36, s_.1), (37, s_.2.1), (46, s_.2.2)]) (fun s_ w' => (w'.cell? ⟨gb226, 0, none⟩ = some (.int .i64 ((rd_T70 l0_1 x5_2).f0)) ∧ w'.cell? ⟨gb226, 1, none⟩ = some (.int .u32 ((rd_T70 l0_1 x5_2).f1)) ∧ w'.cell? ⟨gb226, 2, none⟩ = some (.int .u32 ((rd_T70 l0_1 x5_2).f2)) ∧ w'.cell? ⟨gb226, 3, none⟩ = some (.int .u8 ((rd_T70 l0_1 x5_2).f3))) ∧ (Kd.R (Kd.int .u8) 5 w' w.heap.size (fun k_ => some k_ ≠ (s_.2.1 : Value).ownBlock ∧ some k_ ≠ (s_.2.2 : Value).ownBlock) s_.1 y227) ∧ (Kd.R (Kd.int .u8) 5 w' w.heap.size (fun k_ => some k_ ≠ (s_.1 : Value).ownBlock ∧ some k_ ≠ (s_.2.2 : Value).ownBlock) s_.2.1 y230) ∧ (Kd.R (Kd.int .u8) 5 w' w.heap.size (fun k_ => some k_ ≠ (s_.1 : Value).ownBlock ∧ some k_ ≠ (s_.2.1 : Value).ownBlock) s_.2.2 y239) ∧ (w'.heap[gb219]? = some (.cells #[.bool a0_0, .slice (some ad225) l0_1.length c0_1, .slice A0_2 l0_2.length c0_2] 46 (0, 0))) ∧ (w'.heap[gb226]? = some (.cells #[.int .i64 ((rd_T70 l0_1 x5_2).f0), .int .u32 ((rd_T70 l0_1 x5_2).f1), .int .u32 ((rd_T70 l0_1 x5_2).f2), .int .u8 ((rd_T70 l0_1 x5_2).f3)] 70 (0, 0))) ∧ (Below w.heap.size w w')) ?_ ?_
                            rotate_left
                            · intro hJ4_5_14
                              refine join_ (σ := Value × Value) 5 #[true, true, true, true, true, true, true, true, false, true, true, false, true, true, false, false, false] (fun s_ => [(36, s_.1), (37, s_.2)]) (fun s_ w' => (w'.cell? ⟨gb226, 0, none⟩ = some (.int .i64 ((rd_T70 l0_1 x5_2).f0)) ∧ w'.cell? ⟨gb226, 1, none⟩ = some (.int .u32 ((rd_T70 l0_1 x5_2).f1)) ∧ w'.cell? ⟨gb226, 2, none⟩ = some (.int .u32 ((rd_T70 l0_1 x5_2).f2)) ∧ w'.cell? ⟨gb226, 3, none⟩ = some (.int .u8 ((rd_T70 l0_1 x5_2).f3))) ∧ (Kd.R (Kd.int .u8) 5 w' w.heap.size (fun k_ => some k_ ≠ (s_.2 : Value).ownBlock) s_.1 y227) ∧ (Kd.R (Kd.int .u8) 5 w' w.heap.size (fun k_ => some k_ ≠ (s_.1 : Value).ownBlock) s_.2 y230) ∧ (w'.heap[gb219]? = some (.cells #[.bool a0_0, .slice (some ad225) l0_1.length c0_1, .slice A0_2 l0_2.length c0_2] 46 (0, 0))) ∧ (w'.heap[gb226]? = some (.cells #[.int .i64 ((rd_T70 l0_1 x5_2).f0), .int .u32 ((rd_T70 l0_1 x5_2).f1), .int .u32 ((rd_T70 l0_1 x5_2).f2), .int .u8 ((rd_T70 l0_1 x5_2).f3)] 70 (0, 0))) ∧ (Below w.heap.size w w')) ?_ ?_
                              rotate_left
                              · intro hJ4_5
                                refine join_ (σ := Value × Value) 5 #[true, true, true, true, true, false, true, true, false, true, true, false, true, true, true, false, false] (fun s_ => [(36, s_.1), (46, s_.2)]) (fun s_ w' => (w'.cell? ⟨gb226, 0, none⟩ = some (.int .i64 ((rd_T70 l0_1 x5_2).f0)) ∧ w'.cell? ⟨gb226, 1, none⟩ = some (.int .u32 ((rd_T70 l0_1 x5_2).f1)) ∧ w'.cell? ⟨gb226, 2, none⟩ = some (.int .u32 ((rd_T70 l0_1 x5_2).f2)) ∧ w'.cell? ⟨gb226, 3, none⟩ = some (.int .u8 ((rd_T70 l0_1 x5_2).f3))) ∧ (Kd.R (Kd.int .u8) 5 w' w.heap.size (fun k_ => some k_ ≠ (s_.2 : Value).ownBlock ∧ some k_ ≠ (.slice Ao27 x4_2.length co27 : Value).ownBlock) s_.1 y227) ∧ (Kd.R (Kd.int .u8) 5 w' w.heap.size (fun k_ => some k_ ≠ (s_.1 : Value).ownBlock ∧ some k_ ≠ (.slice Ao27 x4_2.length co27 : Value).ownBlock) s_.2 y239) ∧ (Kd.R (Kd.int .u8) 5 w' w.heap.size (fun k_ => some k_ ≠ (s_.1 : Value).ownBlock ∧ some k_ ≠ (s_.2 : Value).ownBlock) (.slice Ao27 x4_2.length co27) x4_2) ∧ (w'.heap[gb219]? = some (.cells #[.bool a0_0, .slice (some ad225) l0_1.length c0_1, .slice A0_2 l0_2.length c0_2] 46 (0, 0))) ∧ (w'.heap[gb226]? = some (.cells #[.int .i64 ((rd_T70 l0_1 x5_2).f0), .int .u32 ((rd_T70 l0_1 x5_2).f1), .int .u32 ((rd_T70 l0_1 x5_2).f2), .int .u8 ((rd_T70 l0_1 x5_2).f3)] 70 (0, 0))) ∧ (Below w.heap.size w w')) ?_ ?_
                                rotate_left
                                · intro hJ4_14
                                  refine join_ (σ := Value) 6 #[true, true, true, true, true, false, true, true, false, true, true, false, true, true, false, false, false] (fun s_ => [(36, s_)]) (fun s_ w' => (w'.cell? ⟨gb226, 0, none⟩ = some (.int .i64 ((rd_T70 l0_1 x5_2).f0)) ∧ w'.cell? ⟨gb226, 1, none⟩ = some (.int .u32 ((rd_T70 l0_1 x5_2).f1)) ∧ w'.cell? ⟨gb226, 2, none⟩ = some (.int .u32 ((rd_T70 l0_1 x5_2).f2)) ∧ w'.cell? ⟨gb226, 3, none⟩ = some (.int .u8 ((rd_T70 l0_1 x5_2).f3))) ∧ (Kd.R (Kd.int .u8) 5 w' w.heap.size (fun k_ => some k_ ≠ (.slice Ao27 x4_2.length co27 : Value).ownBlock) s_ y227) ∧ (Kd.R (Kd.int .u8) 5 w' w.heap.size (fun k_ => some k_ ≠ (s_ : Value).ownBlock) (.slice Ao27 x4_2.length co27) x4_2) ∧ (w'.heap[gb219]? = some (.cells #[.bool a0_0, .slice (some ad225) l0_1.length c0_1, .slice A0_2 l0_2.length c0_2] 46 (0, 0))) ∧ (w'.heap[gb226]? = some (.cells #[.int .i64 ((rd_T70 l0_1 x5_2).f0), .int .u32 ((rd_T70 l0_1 x5_2).f1), .int .u32 ((rd_T70 l0_1 x5_2).f2), .int .u8 ((rd_T70 l0_1 x5_2).f3)] 70 (0, 0))) ∧ (Below w.heap.size w w')) ?_ ?_
                                  rotate_left
                                  · intro hJ4
                                    refine join_ (σ := Value) 6 #[true, true, true, true, false, false, true, true, false, true, true, false, true, true, true, false, false] (fun s_ => [(46, s_)]) (fun s_ w' => (w'.cell? ⟨gb226, 0, none⟩ = some (.int .i64 ((rd_T70 l0_1 x5_2).f0)) ∧ w'.cell? ⟨gb226, 1, none⟩ = some (.int .u32 ((rd_T70 l0_1 x5_2).f1)) ∧ w'.cell? ⟨gb226, 2, none⟩ = some (.int .u32 ((rd_T70 l0_1 x5_2).f2)) ∧ w'.cell? ⟨gb226, 3, none⟩ = some (.int .u8 ((rd_T70 l0_1 x5_2).f3))) ∧ (Kd.R (Kd.int .u8) 5 w' w.heap.size (fun k_ => some k_ ≠ (.slice Ao27 x4_2.length co27 : Value).ownBlock) s_ y239) ∧ (Kd.R (Kd.int .u8) 5 w' w.heap.size (fun k_ => some k_ ≠ (s_ : Value).ownBlock) (.slice Ao27 x4_2.length co27) x4_2) ∧ (w'.heap[gb219]? = some (.cells #[.bool a0_0, .slice (some ad225) l0_1.length c0_1, .slice A0_2 l0_2.length c0_2] 46 (0, 0))) ∧ (w'.heap[gb226]? = some (.cells #[.int .i64 ((rd_T70 l0_1 x5_2).f0), .int .u32 ((rd_T70 l0_1 x5_2).f1), .int .u32 ((rd_T70 l0_1 x5_2).f2), .int .u8 ((rd_T70 l0_1 x5_2).f3)] 70 (0, 0))) ∧ (Below w.heap.size w w')) ?_ ?_
                                    rotate_left
                                    · intro hJ14
                                      refine two_ (i := 4) (j := 14) (Ni := some 36) (Nj := some 46) #[true, true, true, true, true, false, true, true, false, true, true, false, true, true, false, false, false] #[true, true, true, true, false, false, true, true, false, true, true, false, true, true, true, false, false] rfl rfl rfl rfl (two_of HT_.out (by kernel_rfl)) (by decide) (by decide) (fun K hK => ?_) (fun K hK => ?_)
                                      · skip
                                        refine Kd.R_lit_step (Kd.int .u8) _ 5 ?hg (N := 36) ?hd (xs := ([((rd_T70 l0_1 x5_2).f0) % 256] : List Int)) (inner := [.int .u8 (((rd_T70 l0_1 x5_2).f0) % 256)]) (ok := fun _ => True) (okp := fun _ => True) ?hr ?hp (fun _ hk => hk) trivial (Below.refl _ _) (Nat.le_refl _) (by simp) ?_; (case hd => rfl); (case hg => rfl); (case hr => first | (go_simp; done) | (go_simp; rfl)); (case hp => exact (Reps.one (show Kd.M (Kd.int .u8) _ _ _ (((rd_T70 l0_1 x5_2).f0) % 256) [.int .u8 (((rd_T70 l0_1 x5_2).f0) % 256)] from rfl) (Reps.none _ _)))
                                        intro v228 w30 ho31 hb hg_ hnew_
                                        clear hg_ hnew_
                                        (first | rw [← Ny227.out] at ho31 | (simp only [Int.reduceToNat] at ho31; rw [← Ny227.out] at ho31))
                                        have n0_ := Aside0.mk (Kd.R_elder' (by (with_reducible repeat (first | apply Kd.R_alloc | apply Kd.R_drewN | apply Kd.R_drew)); exact HO_4.out) (Kd.R_base ho31) hb)
                                        have n1_ := Aside0.mk (Kd.R_lower (Kd.R_new' ho31 (Kd.R_lt (by (with_reducible repeat (first | apply Kd.R_alloc | apply Kd.R_drewN | apply Kd.R_drew)); exact HO_4.out))) (below_size (by repeat (first | (with_reducible first | exact HB.out | apply below_alloc | apply pw_below_drewN | apply below_drew1 | refine below_set ?_ GE219.out | refine below_set ?_ GE226.out) | exact HB.out))))
                                        have n2_ := Aside0.mk (blk_below (g := gb219) (o := .cells #[.bool a0_0, .slice (some ad225) l0_1.length c0_1, .slice A0_2 l0_2.length c0_2] 46 (0, 0)) (by (with_reducible repeat (first | refine blk_drewN ?_ _ | refine blk_drew ?_ | refine blk_alloc ?_ _)); exact BK219.out) hb)
                                        have n3_ := Aside0.mk (blk_below (g := gb226) (o := .cells #[.int .i64 ((rd_T70 l0_1 x5_2).f0), .int .u32 ((rd_T70 l0_1 x5_2).f1), .int .u32 ((rd_T70 l0_1 x5_2).f2), .int .u8 ((rd_T70 l0_1 x5_2).f3)] 70 (0, 0)) (by (with_reducible repeat (first | refine blk_drewN ?_ _ | refine blk_drew ?_ | refine blk_alloc ?_ _)); exact BK226.out) hb)
                                        have n4_ := Aside0.mk (below_step (by repeat (first | (with_reducible first | exact HB.out | apply below_alloc | apply pw_below_drewN | apply below_drew1 | refine below_set ?_ GE219.out | refine below_set ?_ GE226.out) | exact HB.out)) hb)
                                        clear HO_4
                                        clear BK219
                                        clear BK226
                                        clear HB
                                        have HO_4 := n0_
                                        have HO229 := n1_
                                        have BK219 := n2_
                                        have BK226 := n3_
                                        have HB := n4_
                                        clear n0_ n1_ n2_ n3_ n4_
                                        clear hb ho31
                                        refine hK.out _ _ ⟨(blk_cell BK226.out 0).trans rfl, (blk_cell BK226.out 1).trans rfl, (blk_cell BK226.out 2).trans rfl, (blk_cell BK226.out 3).trans rfl⟩ (fun hHeld => ?_)
                                        clear hK K
                                        refine norm_ (a' := ?_) ?_ ?_
                                        rotate_left
                                        · show Act.put _ (some 36) _ = _
                                          simp only [Act.put, List.setIfInBounds_toArray, List.set_cons_zero, List.set_cons_succ, i64_w, i32_w]
                                          rfl
                                        exact norm_ (by first | (simp only [putAll, Act.put, List.setIfInBounds_toArray, List.set_cons_zero, List.set_cons_succ]; done) | (simp only [putAll, Act.put, List.setIfInBounds_toArray, List.set_cons_zero, List.set_cons_succ]; rfl)) (hJ4 (_) _ ⟨hHeld, (by (with_reducible repeat (first | apply Kd.R_alloc | apply Kd.R_drewN | apply Kd.R_drew)); exact Kd.R_mono HO229.out (fun _ hk => hk.2)), (by (with_reducible repeat (first | apply Kd.R_alloc | apply Kd.R_drewN | apply Kd.R_drew)); exact Kd.R_mono HO_4.out (fun _ hk => hk.2)), (by (with_reducible repeat (first | refine blk_drewN ?_ _ | refine blk_drew ?_ | refine blk_alloc ?_ _)); exact BK219.out), (by (with_reducible repeat (first | refine blk_drewN ?_ _ | refine blk_drew ?_ | refine blk_alloc ?_ _)); exact BK226.out), (by repeat (first | (with_reducible first | exact HB.out | apply below_alloc | apply pw_below_drewN | apply below_drew1 | refine below_set ?_ GE219.out | refine below_set ?_ GE226.out) | exact HB.out))⟩)
                                      · skip
                                        refine Kd.R_lit_step (Kd.int .u8) _ 5 ?hg (N := 46) ?hd (xs := ([(rd_T70 l0_1 x5_2).f3] : List Int)) (inner := [.int .u8 ((rd_T70 l0_1 x5_2).f3)]) (ok := fun _ => True) (okp := fun _ => True) ?hr ?hp (fun _ hk => hk) trivial (Below.refl _ _) (Nat.le_refl _) (by simp) ?_; (case hd => rfl); (case hg => rfl); (case hr => first | (go_simp; done) | (go_simp; rfl)); (case hp => exact (Reps.one (show Kd.M (Kd.int .u8) _ _ _ ((rd_T70 l0_1 x5_2).f3) [.int .u8 ((rd_T70 l0_1 x5_2).f3)] from rfl) (Reps.none _ _)))
                                        intro v240 w30 ho31 hb hg_ hnew_
                                        clear hg_ hnew_
                                        (first | rw [← Ny239.out] at ho31 | (simp only [Int.reduceToNat] at ho31; rw [← Ny239.out] at ho31))
                                        have n0_ := Aside0.mk (Kd.R_elder' (by (with_reducible repeat (first | apply Kd.R_alloc | apply Kd.R_drewN | apply Kd.R_drew)); exact HO_4.out) (Kd.R_base ho31) hb)
                                        have n1_ := Aside0.mk (Kd.R_lower (Kd.R_new' ho31 (Kd.R_lt (by (with_reducible repeat (first | apply Kd.R_alloc | apply Kd.R_drewN | apply Kd.R_drew)); exact HO_4.out))) (below_size (by repeat (first | (with_reducible first | exact HB.out | apply below_alloc | apply pw_below_drewN | apply below_drew1 | refine below_set ?_ GE219.out | refine below_set ?_ GE226.out) | exact HB.out))))
                                        have n2_ := Aside0.mk (blk_below (g := gb219) (o := .cells #[.bool a0_0, .slice (some ad225) l0_1.length c0_1, .slice A0_2 l0_2.length c0_2] 46 (0, 0)) (by (with_reducible repeat (first | refine blk_drewN ?_ _ | refine blk_drew ?_ | refine blk_alloc ?_ _)); exact BK219.out) hb)
                                        have n3_ := Aside0.mk (blk_below (g := gb226) (o := .cells #[.int .i64 ((rd_T70 l0_1 x5_2).f0), .int .u32 ((rd_T70 l0_1 x5_2).f1), .int .u32 ((rd_T70 l0_1 x5_2).f2), .int .u8 ((rd_T70 l0_1 x5_2).f3)] 70 (0, 0)) (by (with_reducible repeat (first | refine blk_drewN ?_ _ | refine blk_drew ?_ | refine blk_alloc ?_ _)); exact BK226.out) hb)
                                        have n4_ := Aside0.mk (below_step (by repeat (first | (with_reducible first | exact HB.out | apply below_alloc | apply pw_below_drewN | apply below_drew1 | refine below_set ?_ GE219.out | refine below_set ?_ GE226.out) | exact HB.out)) hb)
                                        clear HO_4
                                        clear BK219
                                        clear BK226
                                        clear HB
                                        have HO_4 := n0_
                                        have HO241 := n1_
                                        have BK219 := n2_
                                        have BK226 := n3_
                                        have HB := n4_
                                        clear n0_ n1_ n2_ n3_ n4_
                                        clear hb ho31
                                        refine hK.out _ _ ⟨(blk_cell BK226.out 0).trans rfl, (blk_cell BK226.out 1).trans rfl, (blk_cell BK226.out 2).trans rfl, (blk_cell BK226.out 3).trans rfl⟩ (fun hHeld => ?_)
                                        clear hK K
                                        refine norm_ (a' := ?_) ?_ ?_
                                        rotate_left
                                        · show Act.put _ (some 46) _ = _
                                          simp only [Act.put, List.setIfInBounds_toArray, List.set_cons_zero, List.set_cons_succ, i64_w, i32_w]
                                          rfl
                                        exact norm_ (by first | (simp only [putAll, Act.put, List.setIfInBounds_toArray, List.set_cons_zero, List.set_cons_succ]; done) | (simp only [putAll, Act.put, List.setIfInBounds_toArray, List.set_cons_zero, List.set_cons_succ]; rfl)) (hJ14 (v240) _ ⟨hHeld, (by (with_reducible repeat (first | apply Kd.R_alloc | apply Kd.R_drewN | apply Kd.R_drew)); exact Kd.R_mono HO241.out (fun _ hk => hk.2)), (by (with_reducible repeat (first | apply Kd.R_alloc | apply Kd.R_drewN | apply Kd.R_drew)); exact Kd.R_mono HO_4.out (fun _ hk => hk.2)), (by (with_reducible repeat (first | refine blk_drewN ?_ _ | refine blk_drew ?_ | refine blk_alloc ?_ _)); exact BK219.out), (by (with_reducible repeat (first | refine blk_drewN ?_ _ | refine blk_drew ?_ | refine blk_alloc ?_ _)); exact BK226.out), (by repeat (first | (with_reducible first | exact HB.out | apply below_alloc | apply pw_below_drewN | apply below_drew1 | refine below_set ?_ GE219.out | refine below_set ?_ GE226.out) | exact HB.out))⟩)
                                    · skip
                                      rintro v240 w32 ⟨hS_, h0_, h1_, h2_, h3_, h4_⟩
                                      have n0_ : Aside0 (Kd.R (Kd.int .u8) 5 w32 w.heap.size (fun k_ => some k_ ≠ (.slice Ao27 x4_2.length co27 : Value).ownBlock) v240 y239) := ⟨h0_⟩
                                      have n1_ : Aside0 (Kd.R (Kd.int .u8) 5 w32 w.heap.size (fun k_ => some k_ ≠ (v240 : Value).ownBlock) (.slice Ao27 x4_2.length co27) x4_2) := ⟨h1_⟩
                                      have n2_ : Aside0 (w32.heap[gb219]? = some (.cells #[.bool a0_0, .slice (some ad225) l0_1.length c0_1, .slice A0_2 l0_2.length c0_2] 46 (0, 0))) := ⟨h2_⟩
                                      have n3_ : Aside0 (w32.heap[gb226]? = some (.cells #[.int .i64 ((rd_T70 l0_1 x5_2).f0), .int .u32 ((rd_T70 l0_1 x5_2).f1), .int .u32 ((rd_T70 l0_1 x5_2).f2), .int .u8 ((rd_T70 l0_1 x5_2).f3)] 70 (0, 0))) := ⟨h3_⟩
                                      have n4_ : Aside0 (Below w.heap.size w w32) := ⟨h4_⟩
                                      clear HO_4
                                      clear BK219
                                      clear BK226
                                      clear HB
                                      clear h0_ h1_ h2_ h3_ h4_
                                      have HO241 := n0_
                                      have HO_4 := n1_
                                      have BK219 := n2_
                                      have BK226 := n3_
                                      have HB := n4_
                                      clear n0_ n1_ n2_ n3_ n4_
                                      have hHeld : w32.cell? ⟨gb226, 0, none⟩ = some (.int .i64 ((rd_T70 l0_1 x5_2).f0)) ∧ w32.cell? ⟨gb226, 1, none⟩ = some (.int .u32 ((rd_T70 l0_1 x5_2).f1)) ∧ w32.cell? ⟨gb226, 2, none⟩ = some (.int .u32 ((rd_T70 l0_1 x5_2).f2)) ∧ w32.cell? ⟨gb226, 3, none⟩ = some (.int .u8 ((rd_T70 l0_1 x5_2).f3)) := hS_
                                      refine norm_ (a' := ?_) ?_ ?_
                                      rotate_left
                                      · simp only [putAll, Act.put, List.setIfInBounds_toArray, List.set_cons_zero, List.set_cons_succ]
                                        rfl
                                      refine one_ (i := 4) (N := some 36) #[true, true, true, true, true, false, true, true, false, true, true, false, true, true, true, false, false] rfl rfl (one_of HT_.out (by kernel_rfl)) (by decide) (fun K hK => ?_)
                                      refine Kd.R_lit_step (Kd.int .u8) _ 5 ?hg (N := 36) ?hd (xs := ([((rd_T70 l0_1 x5_2).f0) % 256] : List Int)) (inner := [.int .u8 (((rd_T70 l0_1 x5_2).f0) % 256)]) (ok := fun _ => True) (okp := fun _ => True) ?hr ?hp (fun _ hk => hk) trivial (Below.refl _ _) (Nat.le_refl _) (by simp) ?_; (case hd => rfl); (case hg => rfl); (case hr => first | (go_simp; done) | (go_simp; rfl)); (case hp => exact (Reps.one (show Kd.M (Kd.int .u8) _ _ _ (((rd_T70 l0_1 x5_2).f0) % 256) [.int .u8 (((rd_T70 l0_1 x5_2).f0) % 256)] from rfl) (Reps.none _ _)))
                                      intro v228 w33 ho34 hb hg_ hnew_
                                      clear hg_ hnew_
                                      (first | rw [← Ny227.out] at ho34 | (simp only [Int.reduceToNat] at ho34; rw [← Ny227.out] at ho34))
                                      have n0_ := Aside0.mk (Kd.R_elder' (by (with_reducible repeat (first | apply Kd.R_alloc | apply Kd.R_drewN | apply Kd.R_drew)); exact HO_4.out) (Kd.R_base ho34) hb)
                                      have n1_ := Aside0.mk (Kd.R_elder' (by (with_reducible repeat (first | apply Kd.R_alloc | apply Kd.R_drewN | apply Kd.R_drew)); exact HO241.out) (Kd.R_base ho34) hb)
                                      have n2_ := Aside0.mk (Kd.R_lower (Kd.R_new' (Kd.R_new' ho34 (Kd.R_lt (by (with_reducible repeat (first | apply Kd.R_alloc | apply Kd.R_drewN | apply Kd.R_drew)); exact HO_4.out))) (Kd.R_lt (by (with_reducible repeat (first | apply Kd.R_alloc | apply Kd.R_drewN | apply Kd.R_drew)); exact HO241.out))) (below_size (by repeat (first | (with_reducible first | exact HB.out | apply below_alloc | apply pw_below_drewN | apply below_drew1 | refine below_set ?_ GE219.out | refine below_set ?_ GE226.out) | exact HB.out))))
                                      have n3_ := Aside0.mk (blk_below (g := gb219) (o := .cells #[.bool a0_0, .slice (some ad225) l0_1.length c0_1, .slice A0_2 l0_2.length c0_2] 46 (0, 0)) (by (with_reducible repeat (first | refine blk_drewN ?_ _ | refine blk_drew ?_ | refine blk_alloc ?_ _)); exact BK219.out) hb)
                                      have n4_ := Aside0.mk (blk_below (g := gb226) (o := .cells #[.int .i64 ((rd_T70 l0_1 x5_2).f0), .int .u32 ((rd_T70 l0_1 x5_2).f1), .int .u32 ((rd_T70 l0_1 x5_2).f2), .int .u8 ((rd_T70 l0_1 x5_2).f3)] 70 (0, 0)) (by (with_reducible repeat (first | refine blk_drewN ?_ _ | refine blk_drew ?_ | refine blk_alloc ?_ _)); exact BK226.out) hb)
                                      have n5_ := Aside0.mk (below_step (by repeat (first | (with_reducible first | exact HB.out | apply below_alloc | apply pw_below_drewN | apply below_drew1 | refine below_set ?_ GE219.out | refine below_set ?_ GE226.out) | exact HB.out)) hb)
                                      clear HO_4
                                      clear HO241
                                      clear BK219
                                      clear BK226
                                      clear HB
                                      have HO_4 := n0_
                                      have HO241 := n1_
                                      have HO229 := n2_
                                      have BK219 := n3_
                                      have BK226 := n4_
                                      have HB := n5_
                                      clear n0_ n1_ n2_ n3_ n4_ n5_
                                      clear hb ho34
                                      refine hK.out _ _ ⟨(blk_cell BK226.out 0).trans rfl, (blk_cell BK226.out 1).trans rfl, (blk_cell BK226.out 2).trans rfl, (blk_cell BK226.out 3).trans rfl⟩ (fun hHeld => ?_)
                                      clear hK K
                                      refine norm_ (a' := ?_) ?_ ?_
                                      rotate_left
                                      · show Act.put _ (some 36) _ = _
                                        simp only [Act.put, List.setIfInBounds_toArray, List.set_cons_zero, List.set_cons_succ, i64_w, i32_w]
                                        rfl
                                      exact norm_ (by first | (simp only [putAll, Act.put, List.setIfInBounds_toArray, List.set_cons_zero, List.set_cons_succ]; done) | (simp only [putAll, Act.put, List.setIfInBounds_toArray, List.set_cons_zero, List.set_cons_succ]; rfl)) (hJ4_14 (_, v240) _ ⟨hHeld, (by (with_reducible repeat (first | apply Kd.R_alloc | apply Kd.R_drewN | apply Kd.R_drew)); exact Kd.R_mono HO229.out (fun _ hk => ⟨hk.2, hk.1.2⟩)), (by (with_reducible repeat (first | apply Kd.R_alloc | apply Kd.R_drewN | apply Kd.R_drew)); exact Kd.R_mono HO241.out (fun _ hk => ⟨hk.2, hk.1⟩)), (by (with_reducible repeat (first | apply Kd.R_alloc | apply Kd.R_drewN | apply Kd.R_drew)); exact Kd.R_mono HO_4.out (fun _ hk => ⟨hk.2, hk.1⟩)), (by (with_reducible repeat (first | refine blk_drewN ?_ _ | refine blk_drew ?_ | refine blk_alloc ?_ _)); exact BK219.out), (by (with_reducible repeat (first | refine blk_drewN ?_ _ | refine blk_drew ?_ | refine blk_alloc ?_ _)); exact BK226.out), (by repeat (first | (with_reducible first | exact HB.out | apply below_alloc | apply pw_below_drewN | apply below_drew1 | refine below_set ?_ GE219.out | refine below_set ?_ GE226.out) | exact HB.out))⟩)
                                  · skip
                                    rintro v228 w32 ⟨hS_, h0_, h1_, h2_, h3_, h4_⟩
                                    have n0_ : Aside0 (Kd.R (Kd.int .u8) 5 w32 w.heap.size (fun k_ => some k_ ≠ (.slice Ao27 x4_2.length co27 : Value).ownBlock) v228 y227) := ⟨h0_⟩
                                    have n1_ : Aside0 (Kd.R (Kd.int .u8) 5 w32 w.heap.size (fun k_ => some k_ ≠ (v228 : Value).ownBlock) (.slice Ao27 x4_2.length co27) x4_2) := ⟨h1_⟩
                                    have n2_ : Aside0 (w32.heap[gb219]? = some (.cells #[.bool a0_0, .slice (some ad225) l0_1.length c0_1, .slice A0_2 l0_2.length c0_2] 46 (0, 0))) := ⟨h2_⟩
                                    have n3_ : Aside0 (w32.heap[gb226]? = some (.cells #[.int .i64 ((rd_T70 l0_1 x5_2).f0), .int .u32 ((rd_T70 l0_1 x5_2).f1), .int .u32 ((rd_T70 l0_1 x5_2).f2), .int .u8 ((rd_T70 l0_1 x5_2).f3)] 70 (0, 0))) := ⟨h3_⟩
                                    have n4_ : Aside0 (Below w.heap.size w w32) := ⟨h4_⟩
                                    clear HO_4
                                    clear BK219
                                    clear BK226
                                    clear HB
                                    clear h0_ h1_ h2_ h3_ h4_
                                    have HO229 := n0_
                                    have HO_4 := n1_
                                    have BK219 := n2_
                                    have BK226 := n3_
                                    have HB := n4_
                                    clear n0_ n1_ n2_ n3_ n4_
                                    have hHeld : w32.cell? ⟨gb226, 0, none⟩ = some (.int .i64 ((rd_T70 l0_1 x5_2).f0)) ∧ w32.cell? ⟨gb226, 1, none⟩ = some (.int .u32 ((rd_T70 l0_1 x5_2).f1)) ∧ w32.cell? ⟨gb226, 2, none⟩ = some (.int .u32 ((rd_T70 l0_1 x5_2).f2)) ∧ w32.cell? ⟨gb226, 3, none⟩ = some (.int .u8 ((rd_T70 l0_1 x5_2).f3)) := hS_
                                    obtain ⟨Ao34, co34, eo34⟩ := Kd.R_slice HO229.out
                                    (first | subst eo34 | (injection eo34 with f1_ f2_ f3_; have f4_ := f1_.symm; have f5_ := f3_.symm; clear f1_ f2_ f3_; subst f4_; subst f5_))
                                    refine norm_ (a' := ?_) ?_ ?_
                                    rotate_left
                                    · simp only [putAll, Act.put, List.setIfInBounds_toArray, List.set_cons_zero, List.set_cons_succ]
                                      rfl
                                    refine two_ (i := 5) (j := 14) (Ni := some 37) (Nj := some 46) #[true, true, true, true, true, true, true, true, false, true, true, false, true, true, false, false, false] #[true, true, true, true, true, false, true, true, false, true, true, false, true, true, true, false, false] rfl rfl rfl rfl (two_of HT_.out (by kernel_rfl)) (by decide) (by decide) (fun K hK => ?_) (fun K hK => ?_)
                                    · skip
                                      refine Kd.R_append_rows_step (Kd.int .u8) (w0 := w) w.heap.size (by rfl) (.tmp 32) (.tmp 36) 30 5 (.int .u8 0) 1 rfl Try.underlying30 info5 rfl (by decide) (by omega) (.slice Ao27 x4_2.length co27) x4_2 y227 _ _ _ (fun k_ => some k_ ≠ (.slice Ao34 y227.length co34 : Value).ownBlock) (fun _ => False) rfl rfl ?aO ?aR (fun _ _ h => h) (fun _ h => h.elim) ?aF ?aB ?aS ?aL ?_
                                      (case aR => repeat (first | exact (Kd.R_reads' HO229.out).2.2 | (with_reducible refine Kd.C_alloc ?_ _) | (with_reducible refine Kd.C_drewN ?_ _) | (with_reducible refine Kd.C_drew ?_)))
                                      (case aB => exact (by repeat (first | (with_reducible first | exact HB.out | apply below_alloc | apply pw_below_drewN | apply below_drew1 | refine below_set ?_ GE219.out | refine below_set ?_ GE226.out) | exact HB.out)))
                                      (case aF => exact (fun k_ hk => Kd.fresh' (Kd.R_lt (by (with_reducible repeat (first | apply Kd.R_alloc | apply Kd.R_drewN | apply Kd.R_drew)); exact HO229.out)) k_ hk))
                                      (case aO => exact (by (with_reducible repeat (first | apply Kd.R_alloc | apply Kd.R_drewN | apply Kd.R_drew)); exact HO_4.out))
                                      (case aS => exact (below_size (by repeat (first | (with_reducible first | exact HB.out | apply below_alloc | apply pw_below_drewN | apply below_drew1 | refine below_set ?_ GE219.out | refine below_set ?_ GE226.out) | exact HB.out))))
                                      (case aL => have := LMc19.out; omega)
                                      intro v231 w33 ho hb hg hat
                                      rw [← Ny230.out] at ho
                                      have n0_ := Aside0.mk (blk_grown (g := gb219) (o := .cells #[.bool a0_0, .slice (some ad225) l0_1.length c0_1, .slice A0_2 l0_2.length c0_2] 46 (0, 0)) (by (with_reducible repeat (first | refine blk_drewN ?_ _ | refine blk_drew ?_ | refine blk_alloc ?_ _)); exact BK219.out) hg (Kd.R_ne HO_4.out BK219.out (by decide)))
                                      have n1_ := Aside0.mk (blk_grown (g := gb226) (o := .cells #[.int .i64 ((rd_T70 l0_1 x5_2).f0), .int .u32 ((rd_T70 l0_1 x5_2).f1), .int .u32 ((rd_T70 l0_1 x5_2).f2), .int .u8 ((rd_T70 l0_1 x5_2).f3)] 70 (0, 0)) (by (with_reducible repeat (first | refine blk_drewN ?_ _ | refine blk_drew ?_ | refine blk_alloc ?_ _)); exact BK226.out) hg (Kd.R_ne HO_4.out BK226.out (by decide)))
                                      have n2_ := Aside0.mk (Kd.R_after (ok := (fun _ => True)) (by (with_reducible repeat (first | apply Kd.R_alloc | apply Kd.R_drewN | apply Kd.R_drew)); exact Kd.R_mono HO229.out (fun _ hk => ⟨trivial, hk⟩)) hg hat)
                                      have n3_ := Aside0.mk (hb)
                                      have n4_ := Aside0.mk (ho)
                                      clear BK219
                                      clear BK226
                                      clear HO229
                                      clear HB
                                      clear HO_4
                                      have BK219 := n0_
                                      have BK226 := n1_
                                      have HO229 := n2_
                                      have HB := n3_
                                      have HO232 := n4_
                                      clear n0_ n1_ n2_ n3_ n4_
                                      clear ho hb hg hat
                                      refine hK.out _ _ ⟨(blk_cell BK226.out 0).trans rfl, (blk_cell BK226.out 1).trans rfl, (blk_cell BK226.out 2).trans rfl, (blk_cell BK226.out 3).trans rfl⟩ (fun hHeld => ?_)
                                      clear hK K
                                      refine norm_ (a' := ?_) ?_ ?_
                                      rotate_left
                                      · show Act.put _ (some 37) _ = _
                                        simp only [Act.put, List.setIfInBounds_toArray, List.set_cons_zero, List.set_cons_succ, i64_w, i32_w]
                                        rfl
                                      exact norm_ (by first | (simp only [putAll, Act.put, List.setIfInBounds_toArray, List.set_cons_zero, List.set_cons_succ]; done) | (simp only [putAll, Act.put, List.setIfInBounds_toArray, List.set_cons_zero, List.set_cons_succ]; rfl)) (hJ4_5 (.slice Ao34 y227.length co34, _) _ ⟨hHeld, (by (with_reducible repeat (first | apply Kd.R_alloc | apply Kd.R_drewN | apply Kd.R_drew)); exact Kd.R_mono HO229.out (fun _ hk => hk.2)), (by (with_reducible repeat (first | apply Kd.R_alloc | apply Kd.R_drewN | apply Kd.R_drew)); exact HO232.out), (by (with_reducible repeat (first | refine blk_drewN ?_ _ | refine blk_drew ?_ | refine blk_alloc ?_ _)); exact BK219.out), (by (with_reducible repeat (first | refine blk_drewN ?_ _ | refine blk_drew ?_ | refine blk_alloc ?_ _)); exact BK226.out), (by repeat (first | (with_reducible first | exact HB.out | apply below_alloc | apply pw_below_drewN | apply below_drew1 | refine below_set ?_ GE219.out | refine below_set ?_ GE226.out) | exact HB.out))⟩)
                                    · skip
                                      refine Kd.R_lit_step (Kd.int .u8) _ 5 ?hg (N := 46) ?hd (xs := ([(rd_T70 l0_1 x5_2).f3] : List Int)) (inner := [.int .u8 ((rd_T70 l0_1 x5_2).f3)]) (ok := fun _ => True) (okp := fun _ => True) ?hr ?hp (fun _ hk => hk) trivial (Below.refl _ _) (Nat.le_refl _) (by simp) ?_; (case hd => rfl); (case hg => rfl); (case hr => first | (go_simp; done) | (go_simp; rfl)); (case hp => exact (Reps.one (show Kd.M (Kd.int .u8) _ _ _ ((rd_T70 l0_1 x5_2).f3) [.int .u8 ((rd_T70 l0_1 x5_2).f3)] from rfl) (Reps.none _ _)))
                                      intro v240 w33 ho34 hb hg_ hnew_
                                      clear hg_ hnew_
                                      (first | rw [← Ny239.out] at ho34 | (simp only [Int.reduceToNat] at ho34; rw [← Ny239.out] at ho34))
                                      have n0_ := Aside0.mk (Kd.R_elder' (by (with_reducible repeat (first | apply Kd.R_alloc | apply Kd.R_drewN | apply Kd.R_drew)); exact HO_4.out) (Kd.R_base ho34) hb)
                                      have n1_ := Aside0.mk (Kd.R_elder' (by (with_reducible repeat (first | apply Kd.R_alloc | apply Kd.R_drewN | apply Kd.R_drew)); exact HO229.out) (Kd.R_base ho34) hb)
                                      have n2_ := Aside0.mk (Kd.R_lower (Kd.R_new' (Kd.R_new' ho34 (Kd.R_lt (by (with_reducible repeat (first | apply Kd.R_alloc | apply Kd.R_drewN | apply Kd.R_drew)); exact HO_4.out))) (Kd.R_lt (by (with_reducible repeat (first | apply Kd.R_alloc | apply Kd.R_drewN | apply Kd.R_drew)); exact HO229.out))) (below_size (by repeat (first | (with_reducible first | exact HB.out | apply below_alloc | apply pw_below_drewN | apply below_drew1 | refine below_set ?_ GE219.out | refine below_set ?_ GE226.out) | exact HB.out))))
                                      have n3_ := Aside0.mk (blk_below (g := gb219) (o := .cells #[.bool a0_0, .slice (some ad225) l0_1.length c0_1, .slice A0_2 l0_2.length c0_2] 46 (0, 0)) (by (with_reducible repeat (first | refine blk_drewN ?_ _ | refine blk_drew ?_ | refine blk_alloc ?_ _)); exact BK219.out) hb)
                                      have n4_ := Aside0.mk (blk_below (g := gb226) (o := .cells #[.int .i64 ((rd_T70 l0_1 x5_2).f0), .int .u32 ((rd_T70 l0_1 x5_2).f1), .int .u32 ((rd_T70 l0_1 x5_2).f2), .int .u8 ((rd_T70 l0_1 x5_2).f3)] 70 (0, 0)) (by (with_reducible repeat (first | refine blk_drewN ?_ _ | refine blk_drew ?_ | refine blk_alloc ?_ _)); exact BK226.out) hb)
                                      have n5_ := Aside0.mk (below_step (by repeat (first | (with_reducible first | exact HB.out | apply below_alloc | apply pw_below_drewN | apply below_drew1 | refine below_set ?_ GE219.out | refine below_set ?_ GE226.out) | exact HB.out)) hb)
                                      clear HO_4
                                      clear HO229
                                      clear BK219
                                      clear BK226
                                      clear HB
                                      have HO_4 := n0_
                                      have HO229 := n1_
                                      have HO241 := n2_
                                      have BK219 := n3_
                                      have BK226 := n4_
                                      have HB := n5_
                                      clear n0_ n1_ n2_ n3_ n4_ n5_
                                      clear hb ho34
                                      refine hK.out _ _ ⟨(blk_cell BK226.out 0).trans rfl, (blk_cell BK226.out 1).trans rfl, (blk_cell BK226.out 2).trans rfl, (blk_cell BK226.out 3).trans rfl⟩ (fun hHeld => ?_)
                                      clear hK K
                                      refine norm_ (a' := ?_) ?_ ?_
                                      rotate_left
                                      · show Act.put _ (some 46) _ = _
                                        simp only [Act.put, List.setIfInBounds_toArray, List.set_cons_zero, List.set_cons_succ, i64_w, i32_w]
                                        rfl
                                      exact norm_ (by first | (simp only [putAll, Act.put, List.setIfInBounds_toArray, List.set_cons_zero, List.set_cons_succ]; done) | (simp only [putAll, Act.put, List.setIfInBounds_toArray, List.set_cons_zero, List.set_cons_succ]; rfl)) (hJ4_14 (_, v240) _ ⟨hHeld, (by (with_reducible repeat (first | apply Kd.R_alloc | apply Kd.R_drewN | apply Kd.R_drew)); exact Kd.R_mono HO229.out (fun _ hk => ⟨hk.2, hk.1⟩)), (by (with_reducible repeat (first | apply Kd.R_alloc | apply Kd.R_drewN | apply Kd.R_drew)); exact Kd.R_mono HO241.out (fun _ hk => ⟨hk.2, hk.1.2⟩)), (by (with_reducible repeat (first | apply Kd.R_alloc | apply Kd.R_drewN | apply Kd.R_drew)); exact HO_4.out), (by (with_reducible repeat (first | refine blk_drewN ?_ _ | refine blk_drew ?_ | refine blk_alloc ?_ _)); exact BK219.out), (by (with_reducible repeat (first | refine blk_drewN ?_ _ | refine blk_drew ?_ | refine blk_alloc ?_ _)); exact BK226.out), (by repeat (first | (with_reducible first | exact HB.out | apply below_alloc | apply pw_below_drewN | apply below_drew1 | refine below_set ?_ GE219.out | refine below_set ?_ GE226.out) | exact HB.out))⟩)
                                · skip
                                  rintro ⟨v228, v240⟩ w34 ⟨hS_, h0_, h1_, h2_, h3_, h4_, h5_⟩
                                  have n0_ : Aside0 (Kd.R (Kd.int .u8) 5 w34 w.heap.size (fun k_ => some k_ ≠ (v240 : Value).ownBlock ∧ some k_ ≠ (.slice Ao27 x4_2.length co27 : Value).ownBlock) v228 y227) := ⟨h0_⟩
                                  have n1_ : Aside0 (Kd.R (Kd.int .u8) 5 w34 w.heap.size (fun k_ => some k_ ≠ (v228 : Value).ownBlock ∧ some k_ ≠ (.slice Ao27 x4_2.length co27 : Value).ownBlock) v240 y239) := ⟨h1_⟩
                                  have n2_ : Aside0 (Kd.R (Kd.int .u8) 5 w34 w.heap.size (fun k_ => some k_ ≠ (v228 : Value).ownBlock ∧ some k_ ≠ (v240 : Value).ownBlock) (.slice Ao27 x4_2.length co27) x4_2) := ⟨h2_⟩
                                  have n3_ : Aside0 (w34.heap[gb219]? = some (.cells #[.bool a0_0, .slice (some ad225) l0_1.length c0_1, .slice A0_2 l0_2.length c0_2] 46 (0, 0))) := ⟨h3_⟩
                                  have n4_ : Aside0 (w34.heap[gb226]? = some (.cells #[.int .i64 ((rd_T70 l0_1 x5_2).f0), .int .u32 ((rd_T70 l0_1 x5_2).f1), .int .u32 ((rd_T70 l0_1 x5_2).f2), .int .u8 ((rd_T70 l0_1 x5_2).f3)] 70 (0, 0))) := ⟨h4_⟩
                                  have n5_ : Aside0 (Below w.heap.size w w34) := ⟨h5_⟩
                                  clear HO_4
                                  clear BK219
                                  clear BK226
                                  clear HB
                                  clear h0_ h1_ h2_ h3_ h4_ h5_
                                  have HO229 := n0_
                                  have HO241 := n1_
                                  have HO_4 := n2_
                                  have BK219 := n3_
                                  have BK226 := n4_
                                  have HB := n5_
                                  clear n0_ n1_ n2_ n3_ n4_ n5_
                                  have hHeld : w34.cell? ⟨gb226, 0, none⟩ = some (.int .i64 ((rd_T70 l0_1 x5_2).f0)) ∧ w34.cell? ⟨gb226, 1, none⟩ = some (.int .u32 ((rd_T70 l0_1 x5_2).f1)) ∧ w34.cell? ⟨gb226, 2, none⟩ = some (.int .u32 ((rd_T70 l0_1 x5_2).f2)) ∧ w34.cell? ⟨gb226, 3, none⟩ = some (.int .u8 ((rd_T70 l0_1 x5_2).f3)) := hS_
                                  obtain ⟨Ao36, co36, eo36⟩ := Kd.R_slice HO229.out
                                  (first | subst eo36 | (injection eo36 with f1_ f2_ f3_; have f4_ := f1_.symm; have f5_ := f3_.symm; clear f1_ f2_ f3_; subst f4_; subst f5_))
                                  refine norm_ (a' := ?_) ?_ ?_
                                  rotate_left
                                  · simp only [putAll, Act.put, List.setIfInBounds_toArray, List.set_cons_zero, List.set_cons_succ]
                                    rfl
                                  refine one_ (i := 5) (N := some 37) #[true, true, true, true, true, true, true, true, false, true, true, false, true, true, true, false, false] rfl rfl (one_of HT_.out (by kernel_rfl)) (by decide) (fun K hK => ?_)
                                  refine Kd.R_append_rows_step (Kd.int .u8) (w0 := w) w.heap.size (by rfl) (.tmp 32) (.tmp 36) 30 5 (.int .u8 0) 1 rfl Try.underlying30 info5 rfl (by decide) (by omega) (.slice Ao27 x4_2.length co27) x4_2 y227 _ _ _ (fun k_ => some k_ ≠ (.slice Ao36 y227.length co36 : Value).ownBlock ∧ some k_ ≠ (v240 : Value).ownBlock) (fun _ => False) rfl rfl ?aO ?aR (fun _ _ h => h) (fun _ h => h.elim) ?aF ?aB ?aS ?aL ?_
                                  (case aR => repeat (first | exact (Kd.R_reads' HO229.out).2.2 | (with_reducible refine Kd.C_alloc ?_ _) | (with_reducible refine Kd.C_drewN ?_ _) | (with_reducible refine Kd.C_drew ?_)))
                                  (case aB => exact (by repeat (first | (with_reducible first | exact HB.out | apply below_alloc | apply pw_below_drewN | apply below_drew1 | refine below_set ?_ GE219.out | refine below_set ?_ GE226.out) | exact HB.out)))
                                  (case aF => exact (fun k_ hk => ⟨Kd.fresh' (Kd.R_lt (by (with_reducible repeat (first | apply Kd.R_alloc | apply Kd.R_drewN | apply Kd.R_drew)); exact HO229.out)) k_ hk, Kd.fresh' (Kd.R_lt (by (with_reducible repeat (first | apply Kd.R_alloc | apply Kd.R_drewN | apply Kd.R_drew)); exact HO241.out)) k_ hk⟩))
                                  (case aO => exact (by (with_reducible repeat (first | apply Kd.R_alloc | apply Kd.R_drewN | apply Kd.R_drew)); exact HO_4.out))
                                  (case aS => exact (below_size (by repeat (first | (with_reducible first | exact HB.out | apply below_alloc | apply pw_below_drewN | apply below_drew1 | refine below_set ?_ GE219.out | refine below_set ?_ GE226.out) | exact HB.out))))
                                  (case aL => have := LMc19.out; omega)
                                  intro v231 w35 ho hb hg hat
                                  rw [← Ny230.out] at ho
                                  have n0_ := Aside0.mk (blk_grown (g := gb219) (o := .cells #[.bool a0_0, .slice (some ad225) l0_1.length c0_1, .slice A0_2 l0_2.length c0_2] 46 (0, 0)) (by (with_reducible repeat (first | refine blk_drewN ?_ _ | refine blk_drew ?_ | refine blk_alloc ?_ _)); exact BK219.out) hg (Kd.R_ne HO_4.out BK219.out (by decide)))
                                  have n1_ := Aside0.mk (blk_grown (g := gb226) (o := .cells #[.int .i64 ((rd_T70 l0_1 x5_2).f0), .int .u32 ((rd_T70 l0_1 x5_2).f1), .int .u32 ((rd_T70 l0_1 x5_2).f2), .int .u8 ((rd_T70 l0_1 x5_2).f3)] 70 (0, 0)) (by (with_reducible repeat (first | refine blk_drewN ?_ _ | refine blk_drew ?_ | refine blk_alloc ?_ _)); exact BK226.out) hg (Kd.R_ne HO_4.out BK226.out (by decide)))
                                  have n2_ := Aside0.mk (Kd.R_after (ok := (fun k_ => some k_ ≠ (v240 : Value).ownBlock)) (by (with_reducible repeat (first | apply Kd.R_alloc | apply Kd.R_drewN | apply Kd.R_drew)); exact HO229.out) hg hat)
                                  have n3_ := Aside0.mk (Kd.R_after (ok := (fun k_ => some k_ ≠ (.slice Ao36 y227.length co36 : Value).ownBlock)) (by (with_reducible repeat (first | apply Kd.R_alloc | apply Kd.R_drewN | apply Kd.R_drew)); exact HO241.out) hg hat)
                                  have n4_ := Aside0.mk (hb)
                                  have n5_ := Aside0.mk (ho)
                                  clear BK219
                                  clear BK226
                                  clear HO229
                                  clear HO241
                                  clear HB
                                  clear HO_4
                                  have BK219 := n0_
                                  have BK226 := n1_
                                  have HO229 := n2_
                                  have HO241 := n3_
                                  have HB := n4_
                                  have HO232 := n5_
                                  clear n0_ n1_ n2_ n3_ n4_ n5_
                                  clear ho hb hg hat
                                  refine hK.out _ _ ⟨(blk_cell BK226.out 0).trans rfl, (blk_cell BK226.out 1).trans rfl, (blk_cell BK226.out 2).trans rfl, (blk_cell BK226.out 3).trans rfl⟩ (fun hHeld => ?_)
                                  clear hK K
                                  refine norm_ (a' := ?_) ?_ ?_
                                  rotate_left
                                  · show Act.put _ (some 37) _ = _
                                    simp only [Act.put, List.setIfInBounds_toArray, List.set_cons_zero, List.set_cons_succ, i64_w, i32_w]
                                    rfl
                                  exact norm_ (by first | (simp only [putAll, Act.put, List.setIfInBounds_toArray, List.set_cons_zero, List.set_cons_succ]; done) | (simp only [putAll, Act.put, List.setIfInBounds_toArray, List.set_cons_zero, List.set_cons_succ]; rfl)) (hJ4_5_14 (.slice Ao36 y227.length co36, _, v240) _ ⟨hHeld, (by (with_reducible repeat (first | apply Kd.R_alloc | apply Kd.R_drewN | apply Kd.R_drew)); exact Kd.R_mono HO229.out (fun _ hk => ⟨hk.2, hk.1⟩)), (by (with_reducible repeat (first | apply Kd.R_alloc | apply Kd.R_drewN | apply Kd.R_drew)); exact HO232.out), (by (with_reducible repeat (first | apply Kd.R_alloc | apply Kd.R_drewN | apply Kd.R_drew)); exact HO241.out), (by (with_reducible repeat (first | refine blk_drewN ?_ _ | refine blk_drew ?_ | refine blk_alloc ?_ _)); exact BK219.out), (by (with_reducible repeat (first | refine blk_drewN ?_ _ | refine blk_drew ?_ | refine blk_alloc ?_ _)); exact BK226.out), (by repeat (first | (with_reducible first | exact HB.out | apply below_alloc | apply pw_below_drewN | apply below_drew1 | refine below_set ?_ GE219.out | refine below_set ?_ GE226.out) | exact HB.out))⟩)
                              · skip
                                rintro ⟨v228, v231⟩ w34 ⟨hS_, h0_, h1_, h2_, h3_, h4_⟩
                                have n0_ : Aside0 (Kd.R (Kd.int .u8) 5 w34 w.heap.size (fun k_ => some k_ ≠ (v231 : Value).ownBlock) v228 y227) := ⟨h0_⟩
                                have n1_ : Aside0 (Kd.R (Kd.int .u8) 5 w34 w.heap.size (fun k_ => some k_ ≠ (v228 : Value).ownBlock) v231 y230) := ⟨h1_⟩
                                have n2_ : Aside0 (w34.heap[gb219]? = some (.cells #[.bool a0_0, .slice (some ad225) l0_1.length c0_1, .slice A0_2 l0_2.length c0_2] 46 (0, 0))) := ⟨h2_⟩
                                have n3_ : Aside0 (w34.heap[gb226]? = some (.cells #[.int .i64 ((rd_T70 l0_1 x5_2).f0), .int .u32 ((rd_T70 l0_1 x5_2).f1), .int .u32 ((rd_T70 l0_1 x5_2).f2), .int .u8 ((rd_T70 l0_1 x5_2).f3)] 70 (0, 0))) := ⟨h3_⟩
                                have n4_ : Aside0 (Below w.heap.size w w34) := ⟨h4_⟩
                                clear HO_4
                                clear BK219
                                clear BK226
                                clear HB
                                clear h0_ h1_ h2_ h3_ h4_
                                have HO229 := n0_
                                have HO232 := n1_
                                have BK219 := n2_
                                have BK226 := n3_
                                have HB := n4_
                                clear n0_ n1_ n2_ n3_ n4_
                                have hHeld : w34.cell? ⟨gb226, 0, none⟩ = some (.int .i64 ((rd_T70 l0_1 x5_2).f0)) ∧ w34.cell? ⟨gb226, 1, none⟩ = some (.int .u32 ((rd_T70 l0_1 x5_2).f1)) ∧ w34.cell? ⟨gb226, 2, none⟩ = some (.int .u32 ((rd_T70 l0_1 x5_2).f2)) ∧ w34.cell? ⟨gb226, 3, none⟩ = some (.int .u8 ((rd_T70 l0_1 x5_2).f3)) := hS_
                                obtain ⟨Ao35, co35, eo35⟩ := Kd.R_slice HO232.out
                                (first | subst eo35 | (injection eo35 with f1_ f2_ f3_; have f4_ := f1_.symm; have f5_ := f3_.symm; clear f1_ f2_ f3_; subst f4_; subst f5_))
                                refine norm_ (a' := ?_) ?_ ?_
                                rotate_left
                                · simp only [putAll, Act.put, List.setIfInBounds_toArray, List.set_cons_zero, List.set_cons_succ]
                                  rfl
                                refine two_ (i := 8) (j := 14) (Ni := some 40) (Nj := some 46) #[true, true, true, true, true, true, true, true, true, true, true, false, true, true, false, false, false] #[true, true, true, true, true, true, true, true, false, true, true, false, true, true, true, false, false] rfl rfl rfl rfl (two_of HT_.out (by kernel_rfl)) (by decide) (by decide) (fun K hK => ?_) (fun K hK => ?_)
                                · skip
                                  refine goes_ Try.func30 (by kernel_rfl) rfl #[.slice Ao35 y230.length co35, .int .u32 ((rd_T70 l0_1 x5_2).f1)] (by rfl) rfl rfl (by (try simp only [List.map_toArray, List.map_cons, List.map_nil]); first | done | rfl | (simp only [List.length_drop, List.length_take]; rfl)) ?_
                                  with_reducible refine (tinctureref7_W32.calls _ _ y230 ((rd_T70 l0_1 x5_2).f1) t233 _ ?side1 ?side2 A20.out).mono ?_
                                  (case side1 => repeat (first | exact (Kd.R_reads' HO232.out).2.2 | (with_reducible refine Kd.C_alloc ?_ _) | (with_reducible refine Kd.C_drewN ?_ _) | (with_reducible refine Kd.C_drew ?_)))
                                  (case side2 => exact (Kd.R_reads' HO232.out).2.1)
                                  rintro e w36 ⟨v234, rfl, ho0, hb⟩
                                  refine ⟨_, rfl, ?_⟩
                                  have n0_ := Aside0.mk (Kd.R_elder' (by (with_reducible repeat (first | apply Kd.R_alloc | apply Kd.R_drewN | apply Kd.R_drew)); exact HO229.out) (Kd.R_base ho0) hb)
                                  have n1_ := Aside0.mk (Kd.R_elder' (by (with_reducible repeat (first | apply Kd.R_alloc | apply Kd.R_drewN | apply Kd.R_drew)); exact HO232.out) (Kd.R_base ho0) hb)
                                  have n2_ := Aside0.mk (Kd.R_lower (Kd.R_new' (Kd.R_new' ho0 (Kd.R_lt (by (with_reducible repeat (first | apply Kd.R_alloc | apply Kd.R_drewN | apply Kd.R_drew)); exact HO229.out))) (Kd.R_lt (by (with_reducible repeat (first | apply Kd.R_alloc | apply Kd.R_drewN | apply Kd.R_drew)); exact HO232.out))) (below_size (by repeat (first | (with_reducible first | exact HB.out | apply below_alloc | apply pw_below_drewN | apply below_drew1 | refine below_set ?_ GE219.out | refine below_set ?_ GE226.out) | exact HB.out))))
                                  have n3_ := Aside0.mk (blk_below (g := gb219) (o := .cells #[.bool a0_0, .slice (some ad225) l0_1.length c0_1, .slice A0_2 l0_2.length c0_2] 46 (0, 0)) (by (with_reducible repeat (first | refine blk_drewN ?_ _ | refine blk_drew ?_ | refine blk_alloc ?_ _)); exact BK219.out) hb)
                                  have n4_ := Aside0.mk (blk_below (g := gb226) (o := .cells #[.int .i64 ((rd_T70 l0_1 x5_2).f0), .int .u32 ((rd_T70 l0_1 x5_2).f1), .int .u32 ((rd_T70 l0_1 x5_2).f2), .int .u8 ((rd_T70 l0_1 x5_2).f3)] 70 (0, 0)) (by (with_reducible repeat (first | refine blk_drewN ?_ _ | refine blk_drew ?_ | refine blk_alloc ?_ _)); exact BK226.out) hb)
                                  have n5_ := Aside0.mk (below_step (by repeat (first | (with_reducible first | exact HB.out | apply below_alloc | apply pw_below_drewN | apply below_drew1 | refine below_set ?_ GE219.out | refine below_set ?_ GE226.out) | exact HB.out)) hb)
                                  clear HO229
                                  clear HO232
                                  clear BK219
                                  clear BK226
                                  clear HB
                                  have HO229 := n0_
                                  have HO232 := n1_
                                  have HO235 := n2_
                                  have BK219 := n3_
                                  have BK226 := n4_
                                  have HB := n5_
                                  clear n0_ n1_ n2_ n3_ n4_ n5_
                                  (try clear hb)
                                  (try clear hb2)
                                  (try clear hk)
                                  (try clear hi)
                                  (try clear ho0)
                                  refine hK.out _ _ ⟨(blk_cell BK226.out 0).trans rfl, (blk_cell BK226.out 1).trans rfl, (blk_cell BK226.out 2).trans rfl, (blk_cell BK226.out 3).trans rfl⟩ (fun hHeld => ?_)
                                  clear hK K
                                  refine norm_ (a' := ?_) ?_ ?_
                                  rotate_left
                                  · show Act.put _ (some 40) _ = _
                                    simp only [Act.put, List.setIfInBounds_toArray, List.set_cons_zero, List.set_cons_succ, i64_w, i32_w]
                                    rfl
                                  exact norm_ (by first | (simp only [putAll, Act.put, List.setIfInBounds_toArray, List.set_cons_zero, List.set_cons_succ]; done) | (simp only [putAll, Act.put, List.setIfInBounds_toArray, List.set_cons_zero, List.set_cons_succ]; rfl)) (hJ4_5_8 (_, .slice Ao35 y230.length co35, _) _ ⟨hHeld, (by (with_reducible repeat (first | apply Kd.R_alloc | apply Kd.R_drewN | apply Kd.R_drew)); exact HO229.out), (by (with_reducible repeat (first | apply Kd.R_alloc | apply Kd.R_drewN | apply Kd.R_drew)); exact HO232.out), (by (with_reducible repeat (first | apply Kd.R_alloc | apply Kd.R_drewN | apply Kd.R_drew)); exact Kd.R_mono HO235.out (fun _ hk => ⟨hk.1.2, hk.2⟩)), (by (with_reducible repeat (first | refine blk_drewN ?_ _ | refine blk_drew ?_ | refine blk_alloc ?_ _)); exact BK219.out), (by (with_reducible repeat (first | refine blk_drewN ?_ _ | refine blk_drew ?_ | refine blk_alloc ?_ _)); exact BK226.out), (by repeat (first | (with_reducible first | exact HB.out | apply below_alloc | apply pw_below_drewN | apply below_drew1 | refine below_set ?_ GE219.out | refine below_set ?_ GE226.out) | exact HB.out))⟩)
                                · skip
                                  refine Kd.R_lit_step (Kd.int .u8) _ 5 ?hg (N := 46) ?hd (xs := ([(rd_T70 l0_1 x5_2).f3] : List Int)) (inner := [.int .u8 ((rd_T70 l0_1 x5_2).f3)]) (ok := fun _ => True) (okp := fun _ => True) ?hr ?hp (fun _ hk => hk) trivial (Below.refl _ _) (Nat.le_refl _) (by simp) ?_; (case hd => rfl); (case hg => rfl); (case hr => first | (go_simp; done) | (go_simp; rfl)); (case hp => exact (Reps.one (show Kd.M (Kd.int .u8) _ _ _ ((rd_T70 l0_1 x5_2).f3) [.int .u8 ((rd_T70 l0_1 x5_2).f3)] from rfl) (Reps.none _ _)))
                                  intro v240 w35 ho36 hb hg_ hnew_
                                  clear hg_ hnew_
                                  (first | rw [← Ny239.out] at ho36 | (simp only [Int.reduceToNat] at ho36; rw [← Ny239.out] at ho36))
                                  have n0_ := Aside0.mk (Kd.R_elder' (by (with_reducible repeat (first | apply Kd.R_alloc | apply Kd.R_drewN | apply Kd.R_drew)); exact HO229.out) (Kd.R_base ho36) hb)
                                  have n1_ := Aside0.mk (Kd.R_elder' (by (with_reducible repeat (first | apply Kd.R_alloc | apply Kd.R_drewN | apply Kd.R_drew)); exact HO232.out) (Kd.R_base ho36) hb)
                                  have n2_ := Aside0.mk (Kd.R_lower (Kd.R_new' (Kd.R_new' ho36 (Kd.R_lt (by (with_reducible repeat (first | apply Kd.R_alloc | apply Kd.R_drewN | apply Kd.R_drew)); exact HO229.out))) (Kd.R_lt (by (with_reducible repeat (first | apply Kd.R_alloc | apply Kd.R_drewN | apply Kd.R_drew)); exact HO232.out))) (below_size (by repeat (first | (with_reducible first | exact HB.out | apply below_alloc | apply pw_below_drewN | apply below_drew1 | refine below_set ?_ GE219.out | refine below_set ?_ GE226.out) | exact HB.out))))
                                  have n3_ := Aside0.mk (blk_below (g := gb219) (o := .cells #[.bool a0_0, .slice (some ad225) l0_1.length c0_1, .slice A0_2 l0_2.length c0_2] 46 (0, 0)) (by (with_reducible repeat (first | refine blk_drewN ?_ _ | refine blk_drew ?_ | refine blk_alloc ?_ _)); exact BK219.out) hb)
                                  have n4_ := Aside0.mk (blk_below (g := gb226) (o := .cells #[.int .i64 ((rd_T70 l0_1 x5_2).f0), .int .u32 ((rd_T70 l0_1 x5_2).f1), .int .u32 ((rd_T70 l0_1 x5_2).f2), .int .u8 ((rd_T70 l0_1 x5_2).f3)] 70 (0, 0)) (by (with_reducible repeat (first | refine blk_drewN ?_ _ | refine blk_drew ?_ | refine blk_alloc ?_ _)); exact BK226.out) hb)
                                  have n5_ := Aside0.mk (below_step (by repeat (first | (with_reducible first | exact HB.out | apply below_alloc | apply pw_below_drewN | apply below_drew1 | refine below_set ?_ GE219.out | refine below_set ?_ GE226.out) | exact HB.out)) hb)
                                  clear HO229
                                  clear HO232
                                  clear BK219
                                  clear BK226
                                  clear HB
                                  have HO229 := n0_
                                  have HO232 := n1_
                                  have HO241 := n2_
                                  have BK219 := n3_
                                  have BK226 := n4_
                                  have HB := n5_
                                  clear n0_ n1_ n2_ n3_ n4_ n5_
                                  clear hb ho36
                                  refine hK.out _ _ ⟨(blk_cell BK226.out 0).trans rfl, (blk_cell BK226.out 1).trans rfl, (blk_cell BK226.out 2).trans rfl, (blk_cell BK226.out 3).trans rfl⟩ (fun hHeld => ?_)
                                  clear hK K
                                  refine norm_ (a' := ?_) ?_ ?_
                                  rotate_left
                                  · show Act.put _ (some 46) _ = _
                                    simp only [Act.put, List.setIfInBounds_toArray, List.set_cons_zero, List.set_cons_succ, i64_w, i32_w]
                                    rfl
                                  exact norm_ (by first | (simp only [putAll, Act.put, List.setIfInBounds_toArray, List.set_cons_zero, List.set_cons_succ]; done) | (simp only [putAll, Act.put, List.setIfInBounds_toArray, List.set_cons_zero, List.set_cons_succ]; rfl)) (hJ4_5_14 (_, _, v240) _ ⟨hHeld, (by (with_reducible repeat (first | apply Kd.R_alloc | apply Kd.R_drewN | apply Kd.R_drew)); exact HO229.out), (by (with_reducible repeat (first | apply Kd.R_alloc | apply Kd.R_drewN | apply Kd.R_drew)); exact HO232.out), (by (with_reducible repeat (first | apply Kd.R_alloc | apply Kd.R_drewN | apply Kd.R_drew)); exact Kd.R_mono HO241.out (fun _ hk => ⟨hk.1.2, hk.2⟩)), (by (with_reducible repeat (first | refine blk_drewN ?_ _ | refine blk_drew ?_ | refine blk_alloc ?_ _)); exact BK219.out), (by (with_reducible repeat (first | refine blk_drewN ?_ _ | refine blk_drew ?_ | refine blk_alloc ?_ _)); exact BK226.out), (by repeat (first | (with_reducible first | exact HB.out | apply below_alloc | apply pw_below_drewN | apply below_drew1 | refine below_set ?_ GE219.out | refine below_set ?_ GE226.out) | exact HB.out))⟩)
                            · skip
                              rintro ⟨v228, v231, v240⟩ w36 ⟨hS_, h0_, h1_, h2_, h3_, h4_, h5_⟩
                              have n0_ : Aside0 (Kd.R (Kd.int .u8) 5 w36 w.heap.size (fun k_ => some k_ ≠ (v231 : Value).ownBlock ∧ some k_ ≠ (v240 : Value).ownBlock) v228 y227) := ⟨h0_⟩
                              have n1_ : Aside0 (Kd.R (Kd.int .u8) 5 w36 w.heap.size (fun k_ => some k_ ≠ (v228 : Value).ownBlock ∧ some k_ ≠ (v240 : Value).ownBlock) v231 y230) := ⟨h1_⟩
                              have n2_ : Aside0 (Kd.R (Kd.int .u8) 5 w36 w.heap.size (fun k_ => some k_ ≠ (v228 : Value).ownBlock ∧ some k_ ≠ (v231 : Value).ownBlock) v240 y239) := ⟨h2_⟩
                              have n3_ : Aside0 (w36.heap[gb219]? = some (.cells #[.bool a0_0, .slice (some ad225) l0_1.length c0_1, .slice A0_2 l0_2.length c0_2] 46 (0, 0))) := ⟨h3_⟩
                              have n4_ : Aside0 (w36.heap[gb226]? = some (.cells #[.int .i64 ((rd_T70 l0_1 x5_2).f0), .int .u32 ((rd_T70 l0_1 x5_2).f1), .int .u32 ((rd_T70 l0_1 x5_2).f2), .int .u8 ((rd_T70 l0_1 x5_2).f3)] 70 (0, 0))) := ⟨h4_⟩
                              have n5_ : Aside0 (Below w.heap.size w w36) := ⟨h5_⟩
                              clear HO_4
                              clear BK219
                              clear BK226
                              clear HB
                              clear h0_ h1_ h2_ h3_ h4_ h5_
                              have HO229 := n0_
                              have HO232 := n1_
                              have HO241 := n2_
                              have BK219 := n3_
                              have BK226 := n4_
                              have HB := n5_
                              clear n0_ n1_ n2_ n3_ n4_ n5_
                              have hHeld : w36.cell? ⟨gb226, 0, none⟩ = some (.int .i64 ((rd_T70 l0_1 x5_2).f0)) ∧ w36.cell? ⟨gb226, 1, none⟩ = some (.int .u32 ((rd_T70 l0_1 x5_2).f1)) ∧ w36.cell? ⟨gb226, 2, none⟩ = some (.int .u32 ((rd_T70 l0_1 x5_2).f2)) ∧ w36.cell? ⟨gb226, 3, none⟩ = some (.int .u8 ((rd_T70 l0_1 x5_2).f3)) := hS_
                              obtain ⟨Ao37, co37, eo37⟩ := Kd.R_slice HO232.out
                              (first | subst eo37 | (injection eo37 with f1_ f2_ f3_; have f4_ := f1_.symm; have f5_ := f3_.symm; clear f1_ f2_ f3_; subst f4_; subst f5_))
                              refine norm_ (a' := ?_) ?_ ?_
                              rotate_left
                              · simp only [putAll, Act.put, List.setIfInBounds_toArray, List.set_cons_zero, List.set_cons_succ]
                                rfl
                              refine one_ (i := 8) (N := some 40) #[true, true, true, true, true, true, true, true, true, true, true, false, true, true, true, false, false] rfl rfl (one_of HT_.out (by kernel_rfl)) (by decide) (fun K hK => ?_)
                              refine goes_ Try.func30 (by kernel_rfl) rfl #[.slice Ao37 y230.length co37, .int .u32 ((rd_T70 l0_1 x5_2).f1)] (by rfl) rfl rfl (by (try simp only [List.map_toArray, List.map_cons, List.map_nil]); first | done | rfl | (simp only [List.length_drop, List.length_take]; rfl)) ?_
                              with_reducible refine (tinctureref7_W32.calls _ _ y230 ((rd_T70 l0_1 x5_2).f1) t233 _ ?side1 ?side2 A20.out).mono ?_
                              (case side1 => repeat (first | exact (Kd.R_reads' HO232.out).2.2 | (with_reducible refine Kd.C_alloc ?_ _) | (with_reducible refine Kd.C_drewN ?_ _) | (with_reducible refine Kd.C_drew ?_)))
                              (case side2 => exact (Kd.R_reads' HO232.out).2.1)
                              rintro e w38 ⟨v234, rfl, ho0, hb⟩
                              refine ⟨_, rfl, ?_⟩
                              have n0_ := Aside0.mk (Kd.R_elder' (by (with_reducible repeat (first | apply Kd.R_alloc | apply Kd.R_drewN | apply Kd.R_drew)); exact HO229.out) (Kd.R_base ho0) hb)
                              have n1_ := Aside0.mk (Kd.R_elder' (by (with_reducible repeat (first | apply Kd.R_alloc | apply Kd.R_drewN | apply Kd.R_drew)); exact HO232.out) (Kd.R_base ho0) hb)
                              have n2_ := Aside0.mk (Kd.R_elder' (by (with_reducible repeat (first | apply Kd.R_alloc | apply Kd.R_drewN | apply Kd.R_drew)); exact HO241.out) (Kd.R_base ho0) hb)
                              have n3_ := Aside0.mk (Kd.R_lower (Kd.R_new' (Kd.R_new' (Kd.R_new' ho0 (Kd.R_lt (by (with_reducible repeat (first | apply Kd.R_alloc | apply Kd.R_drewN | apply Kd.R_drew)); exact HO229.out))) (Kd.R_lt (by (with_reducible repeat (first | apply Kd.R_alloc | apply Kd.R_drewN | apply Kd.R_drew)); exact HO232.out))) (Kd.R_lt (by (with_reducible repeat (first | apply Kd.R_alloc | apply Kd.R_drewN | apply Kd.R_drew)); exact HO241.out))) (below_size (by repeat (first | (with_reducible first | exact HB.out | apply below_alloc | apply pw_below_drewN | apply below_drew1 | refine below_set ?_ GE219.out | refine below_set ?_ GE226.out) | exact HB.out))))
                              have n4_ := Aside0.mk (blk_below (g := gb219) (o := .cells #[.bool a0_0, .slice (some ad225) l0_1.length c0_1, .slice A0_2 l0_2.length c0_2] 46 (0, 0)) (by (with_reducible repeat (first | refine blk_drewN ?_ _ | refine blk_drew ?_ | refine blk_alloc ?_ _)); exact BK219.out) hb)
                              have n5_ := Aside0.mk (blk_below (g := gb226) (o := .cells #[.int .i64 ((rd_T70 l0_1 x5_2).f0), .int .u32 ((rd_T70 l0_1 x5_2).f1), .int .u32 ((rd_T70 l0_1 x5_2).f2), .int .u8 ((rd_T70 l0_1 x5_2).f3)] 70 (0, 0)) (by (with_reducible repeat (first | refine blk_drewN ?_ _ | refine blk_drew ?_ | refine blk_alloc ?_ _)); exact BK226.out) hb)
                              have n6_ := Aside0.mk (below_step (by repeat (first | (with_reducible first | exact HB.out | apply below_alloc | apply pw_below_drewN | apply below_drew1 | refine below_set ?_ GE219.out | refine below_set ?_ GE226.out) | exact HB.out)) hb)
                              clear HO229
                              clear HO232
                              clear HO241
                              clear BK219
                              clear BK226
                              clear HB
                              have HO229 := n0_
                              have HO232 := n1_
                              have HO241 := n2_
                              have HO235 := n3_
                              have BK219 := n4_
                              have BK226 := n5_
                              have HB := n6_
                              clear n0_ n1_ n2_ n3_ n4_ n5_ n6_
                              (try clear hb)
                              (try clear hb2)
                              (try clear hk)
                              (try clear hi)
                              (try clear ho0)
                              refine hK.out _ _ ⟨(blk_cell BK226.out 0).trans rfl, (blk_cell BK226.out 1).trans rfl, (blk_cell BK226.out 2).trans rfl, (blk_cell BK226.out 3).trans rfl⟩ (fun hHeld => ?_)
                              clear hK K
                              refine norm_ (a' := ?_) ?_ ?_
                              rotate_left
                              · show Act.put _ (some 40) _ = _
                                simp only [Act.put, List.setIfInBounds_toArray, List.set_cons_zero, List.set_cons_succ, i64_w, i32_w]
                                rfl
                              exact norm_ (by first | (simp only [putAll, Act.put, List.setIfInBounds_toArray, List.set_cons_zero, List.set_cons_succ]; done) | (simp only [putAll, Act.put, List.setIfInBounds_toArray, List.set_cons_zero, List.set_cons_succ]; rfl)) (hJ4_5_8_14 (_, .slice Ao37 y230.length co37, _, v240) _ ⟨hHeld, (by (with_reducible repeat (first | apply Kd.R_alloc | apply Kd.R_drewN | apply Kd.R_drew)); exact Kd.R_mono HO229.out (fun _ hk => ⟨hk.1.1, ⟨hk.2, hk.1.2⟩⟩)), (by (with_reducible repeat (first | apply Kd.R_alloc | apply Kd.R_drewN | apply Kd.R_drew)); exact Kd.R_mono HO232.out (fun _ hk => ⟨hk.1.1, ⟨hk.2, hk.1.2⟩⟩)), (by (with_reducible repeat (first | apply Kd.R_alloc | apply Kd.R_drewN | apply Kd.R_drew)); exact Kd.R_mono HO235.out (fun _ hk => ⟨hk.1.1.2, ⟨hk.1.2, hk.2⟩⟩)), (by (with_reducible repeat (first | apply Kd.R_alloc | apply Kd.R_drewN | apply Kd.R_drew)); exact Kd.R_mono HO241.out (fun _ hk => ⟨hk.1.1, ⟨hk.1.2, hk.2⟩⟩)), (by (with_reducible repeat (first | refine blk_drewN ?_ _ | refine blk_drew ?_ | refine blk_alloc ?_ _)); exact BK219.out), (by (with_reducible repeat (first | refine blk_drewN ?_ _ | refine blk_drew ?_ | refine blk_alloc ?_ _)); exact BK226.out), (by repeat (first | (with_reducible first | exact HB.out | apply below_alloc | apply pw_below_drewN | apply below_drew1 | refine below_set ?_ GE219.out | refine below_set ?_ GE226.out) | exact HB.out))⟩)
                          · skip
                            rintro ⟨v228, v231, v234⟩ w36 ⟨hS_, h0_, h1_, h2_, h3_, h4_, h5_⟩
                            have n0_ : Aside0 (Kd.R (Kd.int .u8) 5 w36 w.heap.size (fun k_ => some k_ ≠ (v231 : Value).ownBlock ∧ some k_ ≠ (v234 : Value).ownBlock) v228 y227) := ⟨h0_⟩
                            have n1_ : Aside0 (Kd.R (Kd.int .u8) 5 w36 w.heap.size (fun k_ => some k_ ≠ (v228 : Value).ownBlock ∧ some k_ ≠ (v234 : Value).ownBlock) v231 y230) := ⟨h1_⟩
                            have n2_ : Aside0 (Kd.R (Kd.int .u8) 5 w36 w.heap.size (fun k_ => some k_ ≠ (v228 : Value).ownBlock ∧ some k_ ≠ (v231 : Value).ownBlock) v234 t233) := ⟨h2_⟩
                            have n3_ : Aside0 (w36.heap[gb219]? = some (.cells #[.bool a0_0, .slice (some ad225) l0_1.length c0_1, .slice A0_2 l0_2.length c0_2] 46 (0, 0))) := ⟨h3_⟩
                            have n4_ : Aside0 (w36.heap[gb226]? = some (.cells #[.int .i64 ((rd_T70 l0_1 x5_2).f0), .int .u32 ((rd_T70 l0_1 x5_2).f1), .int .u32 ((rd_T70 l0_1 x5_2).f2), .int .u8 ((rd_T70 l0_1 x5_2).f3)] 70 (0, 0))) := ⟨h4_⟩
                            have n5_ : Aside0 (Below w.heap.size w w36) := ⟨h5_⟩
                            clear HO_4
                            clear BK219
                            clear BK226
                            clear HB
                            clear h0_ h1_ h2_ h3_ h4_ h5_
                            have HO229 := n0_
                            have HO232 := n1_
                            have HO235 := n2_
                            have BK219 := n3_
                            have BK226 := n4_
                            have HB := n5_
                            clear n0_ n1_ n2_ n3_ n4_ n5_
                            have hHeld : w36.cell? ⟨gb226, 0, none⟩ = some (.int .i64 ((rd_T70 l0_1 x5_2).f0)) ∧ w36.cell? ⟨gb226, 1, none⟩ = some (.int .u32 ((rd_T70 l0_1 x5_2).f1)) ∧ w36.cell? ⟨gb226, 2, none⟩ = some (.int .u32 ((rd_T70 l0_1 x5_2).f2)) ∧ w36.cell? ⟨gb226, 3, none⟩ = some (.int .u8 ((rd_T70 l0_1 x5_2).f3)) := hS_
                            obtain ⟨Ao37, co37, eo37⟩ := Kd.R_slice HO235.out
                            (first | subst eo37 | (injection eo37 with f1_ f2_ f3_; have f4_ := f1_.symm; have f5_ := f3_.symm; clear f1_ f2_ f3_; subst f4_; subst f5_))
                            refine norm_ (a' := ?_) ?_ ?_
                            rotate_left
                            · simp only [putAll, Act.put, List.setIfInBounds_toArray, List.set_cons_zero, List.set_cons_succ]
                              rfl
                            refine two_ (i := 11) (j := 14) (Ni := some 43) (Nj := some 46) #[true, true, true, true, true, true, true, true, true, true, true, true, true, true, false, false, false] #[true, true, true, true, true, true, true, true, true, true, true, false, true, true, true, false, false] rfl rfl rfl rfl (two_of HT_.out (by kernel_rfl)) (by decide) (by decide) (fun K hK => ?_) (fun K hK => ?_)
                            · skip
                              refine goes_ Try.func30 (by kernel_rfl) rfl #[.slice Ao37 t233.length co37, .int .u32 ((rd_T70 l0_1 x5_2).f2)] (by rfl) rfl rfl (by (try simp only [List.map_toArray, List.map_cons, List.map_nil]); first | done | rfl | (simp only [List.length_drop, List.length_take]; rfl)) ?_
                              with_reducible refine (tinctureref7_W32.calls _ _ t233 ((rd_T70 l0_1 x5_2).f2) t236 _ ?side1 ?side2 A21.out).mono ?_
                              (case side1 => repeat (first | exact (Kd.R_reads' HO235.out).2.2 | (with_reducible refine Kd.C_alloc ?_ _) | (with_reducible refine Kd.C_drewN ?_ _) | (with_reducible refine Kd.C_drew ?_)))
                              (case side2 => exact (Kd.R_reads' HO235.out).2.1)
                              rintro e w38 ⟨v237, rfl, ho0, hb⟩
                              refine ⟨_, rfl, ?_⟩
                              have n0_ := Aside0.mk (Kd.R_elder' (by (with_reducible repeat (first | apply Kd.R_alloc | apply Kd.R_drewN | apply Kd.R_drew)); exact HO229.out) (Kd.R_base ho0) hb)
                              have n1_ := Aside0.mk (Kd.R_elder' (by (with_reducible repeat (first | apply Kd.R_alloc | apply Kd.R_drewN | apply Kd.R_drew)); exact HO232.out) (Kd.R_base ho0) hb)
                              have n2_ := Aside0.mk (Kd.R_elder' (by (with_reducible repeat (first | apply Kd.R_alloc | apply Kd.R_drewN | apply Kd.R_drew)); exact HO235.out) (Kd.R_base ho0) hb)
                              have n3_ := Aside0.mk (Kd.R_lower (Kd.R_new' (Kd.R_new' (Kd.R_new' ho0 (Kd.R_lt (by (with_reducible repeat (first | apply Kd.R_alloc | apply Kd.R_drewN | apply Kd.R_drew)); exact HO229.out))) (Kd.R_lt (by (with_reducible repeat (first | apply Kd.R_alloc | apply Kd.R_drewN | apply Kd.R_drew)); exact HO232.out))) (Kd.R_lt (by (with_reducible repeat (first | apply Kd.R_alloc | apply Kd.R_drewN | apply Kd.R_drew)); exact HO235.out))) (below_size (by repeat (first | (with_reducible first | exact HB.out | apply below_alloc | apply pw_below_drewN | apply below_drew1 | refine below_set ?_ GE219.out | refine below_set ?_ GE226.out) | exact HB.out))))
                              have n4_ := Aside0.mk (blk_below (g := gb219) (o := .cells #[.bool a0_0, .slice (some ad225) l0_1.length c0_1, .slice A0_2 l0_2.length c0_2] 46 (0, 0)) (by (with_reducible repeat (first | refine blk_drewN ?_ _ | refine blk_drew ?_ | refine blk_alloc ?_ _)); exact BK219.out) hb)
                              have n5_ := Aside0.mk (blk_below (g := gb226) (o := .cells #[.int .i64 ((rd_T70 l0_1 x5_2).f0), .int .u32 ((rd_T70 l0_1 x5_2).f1), .int .u32 ((rd_T70 l0_1 x5_2).f2), .int .u8 ((rd_T70 l0_1 x5_2).f3)] 70 (0, 0)) (by (with_reducible repeat (first | refine blk_drewN ?_ _ | refine blk_drew ?_ | refine blk_alloc ?_ _)); exact BK226.out) hb)
                              have n6_ := Aside0.mk (below_step (by repeat (first | (with_reducible first | exact HB.out | apply below_alloc | apply pw_below_drewN | apply below_drew1 | refine below_set ?_ GE219.out | refine below_set ?_ GE226.out) | exact HB.out)) hb)
                              clear HO229
                              clear HO232
                              clear HO235
                              clear BK219
                              clear BK226
                              clear HB
                              have HO229 := n0_
                              have HO232 := n1_
                              have HO235 := n2_
                              have HO238 := n3_
                              have BK219 := n4_
                              have BK226 := n5_
                              have HB := n6_
                              clear n0_ n1_ n2_ n3_ n4_ n5_ n6_
                              (try clear hb)
                              (try clear hb2)
                              (try clear hk)
                              (try clear hi)
                              (try clear ho0)
                              refine hK.out _ _ ⟨(blk_cell BK226.out 0).trans rfl, (blk_cell BK226.out 1).trans rfl, (blk_cell BK226.out 2).trans rfl, (blk_cell BK226.out 3).trans rfl⟩ (fun hHeld => ?_)
                              clear hK K
                              refine norm_ (a' := ?_) ?_ ?_
                              rotate_left
                              · show Act.put _ (some 43) _ = _
                                simp only [Act.put, List.setIfInBounds_toArray, List.set_cons_zero, List.set_cons_succ, i64_w, i32_w]
                                rfl
                              exact norm_ (by first | (simp only [putAll, Act.put, List.setIfInBounds_toArray, List.set_cons_zero, List.set_cons_succ]; done) | (simp only [putAll, Act.put, List.setIfInBounds_toArray, List.set_cons_zero, List.set_cons_succ]; rfl)) (hJ4_5_8_11 (_, _, .slice Ao37 t233.length co37, v237) _ ⟨hHeld, (by (with_reducible repeat (first | apply Kd.R_alloc | apply Kd.R_drewN | apply Kd.R_drew)); exact Kd.R_mono HO229.out (fun _ hk => ⟨hk.1.1, ⟨hk.1.2, hk.2⟩⟩)), (by (with_reducible repeat (first | apply Kd.R_alloc | apply Kd.R_drewN | apply Kd.R_drew)); exact Kd.R_mono HO232.out (fun _ hk => ⟨hk.1.1, ⟨hk.1.2, hk.2⟩⟩)), (by (with_reducible repeat (first | apply Kd.R_alloc | apply Kd.R_drewN | apply Kd.R_drew)); exact Kd.R_mono HO235.out (fun _ hk => ⟨hk.1.1, ⟨hk.1.2, hk.2⟩⟩)), (by (with_reducible repeat (first | apply Kd.R_alloc | apply Kd.R_drewN | apply Kd.R_drew)); exact Kd.R_mono HO238.out (fun _ hk => ⟨hk.1.1.2, ⟨hk.1.2, hk.2⟩⟩)), (by (with_reducible repeat (first | refine blk_drewN ?_ _ | refine blk_drew ?_ | refine blk_alloc ?_ _)); exact BK219.out), (by (with_reducible repeat (first | refine blk_drewN ?_ _ | refine blk_drew ?_ | refine blk_alloc ?_ _)); exact BK226.out), (by repeat (first | (with_reducible first | exact HB.out | apply below_alloc | apply pw_below_drewN | apply below_drew1 | refine below_set ?_ GE219.out | refine below_set ?_ GE226.out) | exact HB.out))⟩)
                            · skip
                              refine Kd.R_lit_step (Kd.int .u8) _ 5 ?hg (N := 46) ?hd (xs := ([(rd_T70 l0_1 x5_2).f3] : List Int)) (inner := [.int .u8 ((rd_T70 l0_1 x5_2).f3)]) (ok := fun _ => True) (okp := fun _ => True) ?hr ?hp (fun _ hk => hk) trivial (Below.refl _ _) (Nat.le_refl _) (by simp) ?_; (case hd => rfl); (case hg => rfl); (case hr => first | (go_simp; done) | (go_simp; rfl)); (case hp => exact (Reps.one (show Kd.M (Kd.int .u8) _ _ _ ((rd_T70 l0_1 x5_2).f3) [.int .u8 ((rd_T70 l0_1 x5_2).f3)] from rfl) (Reps.none _ _)))
                              intro v240 w37 ho38 hb hg_ hnew_
                              clear hg_ hnew_
                              (first | rw [← Ny239.out] at ho38 | (simp only [Int.reduceToNat] at ho38; rw [← Ny239.out] at ho38))
                              have n0_ := Aside0.mk (Kd.R_elder' (by (with_reducible repeat (first | apply Kd.R_alloc | apply Kd.R_drewN | apply Kd.R_drew)); exact HO229.out) (Kd.R_base ho38) hb)
                              have n1_ := Aside0.mk (Kd.R_elder' (by (with_reducible repeat (first | apply Kd.R_alloc | apply Kd.R_drewN | apply Kd.R_drew)); exact HO232.out) (Kd.R_base ho38) hb)
                              have n2_ := Aside0.mk (Kd.R_elder' (by (with_reducible repeat (first | apply Kd.R_alloc | apply Kd.R_drewN | apply Kd.R_drew)); exact HO235.out) (Kd.R_base ho38) hb)
                              have n3_ := Aside0.mk (Kd.R_lower (Kd.R_new' (Kd.R_new' (Kd.R_new' ho38 (Kd.R_lt (by (with_reducible repeat (first | apply Kd.R_alloc | apply Kd.R_drewN | apply Kd.R_drew)); exact HO229.out))) (Kd.R_lt (by (with_reducible repeat (first | apply Kd.R_alloc | apply Kd.R_drewN | apply Kd.R_drew)); exact HO232.out))) (Kd.R_lt (by (with_reducible repeat (first | apply Kd.R_alloc | apply Kd.R_drewN | apply Kd.R_drew)); exact HO235.out))) (below_size (by repeat (first | (with_reducible first | exact HB.out | apply below_alloc | apply pw_below_drewN | apply below_drew1 | refine below_set ?_ GE219.out | refine below_set ?_ GE226.out) | exact HB.out))))
                              have n4_ := Aside0.mk (blk_below (g := gb219) (o := .cells #[.bool a0_0, .slice (some ad225) l0_1.length c0_1, .slice A0_2 l0_2.length c0_2] 46 (0, 0)) (by (with_reducible repeat (first | refine blk_drewN ?_ _ | refine blk_drew ?_ | refine blk_alloc ?_ _)); exact BK219.out) hb)
                              have n5_ := Aside0.mk (blk_below (g := gb226) (o := .cells #[.int .i64 ((rd_T70 l0_1 x5_2).f0), .int .u32 ((rd_T70 l0_1 x5_2).f1), .int .u32 ((rd_T70 l0_1 x5_2).f2), .int .u8 ((rd_T70 l0_1 x5_2).f3)] 70 (0, 0)) (by (with_reducible repeat (first | refine blk_drewN ?_ _ | refine blk_drew ?_ | refine blk_alloc ?_ _)); exact BK226.out) hb)
                              have n6_ := Aside0.mk (below_step (by repeat (first | (with_reducible first | exact HB.out | apply below_alloc | apply pw_below_drewN | apply below_drew1 | refine below_set ?_ GE219.out | refine below_set ?_ GE226.out) | exact HB.out)) hb)
                              clear HO229
                              clear HO232
                              clear HO235
                              clear BK219
                              clear BK226
                              clear HB
                              have HO229 := n0_
                              have HO232 := n1_
                              have HO235 := n2_
                              have HO241 := n3_
                              have BK219 := n4_
                              have BK226 := n5_
                              have HB := n6_
                              clear n0_ n1_ n2_ n3_ n4_ n5_ n6_
                              clear hb ho38
                              refine hK.out _ _ ⟨(blk_cell BK226.out 0).trans rfl, (blk_cell BK226.out 1).trans rfl, (blk_cell BK226.out 2).trans rfl, (blk_cell BK226.out 3).trans rfl⟩ (fun hHeld => ?_)
                              clear hK K
                              refine norm_ (a' := ?_) ?_ ?_
                              rotate_left
                              · show Act.put _ (some 46) _ = _
                                simp only [Act.put, List.setIfInBounds_toArray, List.set_cons_zero, List.set_cons_succ, i64_w, i32_w]
                                rfl
                              exact norm_ (by first | (simp only [putAll, Act.put, List.setIfInBounds_toArray, List.set_cons_zero, List.set_cons_succ]; done) | (simp only [putAll, Act.put, List.setIfInBounds_toArray, List.set_cons_zero, List.set_cons_succ]; rfl)) (hJ4_5_8_14 (_, _, _, v240) _ ⟨hHeld, (by (with_reducible repeat (first | apply Kd.R_alloc | apply Kd.R_drewN | apply Kd.R_drew)); exact Kd.R_mono HO229.out (fun _ hk => ⟨hk.1.1, ⟨hk.1.2, hk.2⟩⟩)), (by (with_reducible repeat (first | apply Kd.R_alloc | apply Kd.R_drewN | apply Kd.R_drew)); exact Kd.R_mono HO232.out (fun _ hk => ⟨hk.1.1, ⟨hk.1.2, hk.2⟩⟩)), (by (with_reducible repeat (first | apply Kd.R_alloc | apply Kd.R_drewN | apply Kd.R_drew)); exact Kd.R_mono HO235.out (fun _ hk => ⟨hk.1.1, ⟨hk.1.2, hk.2⟩⟩)), (by (with_reducible repeat (first | apply Kd.R_alloc | apply Kd.R_drewN | apply Kd.R_drew)); exact Kd.R_mono HO241.out (fun _ hk => ⟨hk.1.1.2, ⟨hk.1.2, hk.2⟩⟩)), (by (with_reducible repeat (first | refine blk_drewN ?_ _ | refine blk_drew ?_ | refine blk_alloc ?_ _)); exact BK219.out), (by (with_reducible repeat (first | refine blk_drewN ?_ _ | refine blk_drew ?_ | refine blk_alloc ?_ _)); exact BK226.out), (by repeat (first | (with_reducible first | exact HB.out | apply below_alloc | apply pw_below_drewN | apply below_drew1 | refine below_set ?_ GE219.out | refine below_set ?_ GE226.out) | exact HB.out))⟩)
                        · skip
                          rintro ⟨v228, v231, v234, v240⟩ w38 ⟨hS_, h0_, h1_, h2_, h3_, h4_, h5_, h6_⟩
                          have n0_ : Aside0 (Kd.R (Kd.int .u8) 5 w38 w.heap.size (fun k_ => some k_ ≠ (v231 : Value).ownBlock ∧ some k_ ≠ (v234 : Value).ownBlock ∧ some k_ ≠ (v240 : Value).ownBlock) v228 y227) := ⟨h0_⟩
                          have n1_ : Aside0 (Kd.R (Kd.int .u8) 5 w38 w.heap.size (fun k_ => some k_ ≠ (v228 : Value).ownBlock ∧ some k_ ≠ (v234 : Value).ownBlock ∧ some k_ ≠ (v240 : Value).ownBlock) v231 y230) := ⟨h1_⟩
                          have n2_ : Aside0 (Kd.R (Kd.int .u8) 5 w38 w.heap.size (fun k_ => some k_ ≠ (v228 : Value).ownBlock ∧ some k_ ≠ (v231 : Value).ownBlock ∧ some k_ ≠ (v240 : Value).ownBlock) v234 t233) := ⟨h2_⟩
                          have n3_ : Aside0 (Kd.R (Kd.int .u8) 5 w38 w.heap.size (fun k_ => some k_ ≠ (v228 : Value).ownBlock ∧ some k_ ≠ (v231 : Value).ownBlock ∧ some k_ ≠ (v234 : Value).ownBlock) v240 y239) := ⟨h3_⟩
                          have n4_ : Aside0 (w38.heap[gb219]? = some (.cells #[.bool a0_0, .slice (some ad225) l0_1.length c0_1, .slice A0_2 l0_2.length c0_2] 46 (0, 0))) := ⟨h4_⟩
                          have n5_ : Aside0 (w38.heap[gb226]? = some (.cells #[.int .i64 ((rd_T70 l0_1 x5_2).f0), .int .u32 ((rd_T70 l0_1 x5_2).f1), .int .u32 ((rd_T70 l0_1 x5_2).f2), .int .u8 ((rd_T70 l0_1 x5_2).f3)] 70 (0, 0))) := ⟨h5_⟩
                          have n6_ : Aside0 (Below w.heap.size w w38) := ⟨h6_⟩
                          clear HO_4
                          clear BK219
                          clear BK226
                          clear HB
                          clear h0_ h1_ h2_ h3_ h4_ h5_ h6_
                          have HO229 := n0_
                          have HO232 := n1_
                          have HO235 := n2_
                          have HO241 := n3_
                          have BK219 := n4_
                          have BK226 := n5_
                          have HB := n6_
                          clear n0_ n1_ n2_ n3_ n4_ n5_ n6_
                          have hHeld : w38.cell? ⟨gb226, 0, none⟩ = some (.int .i64 ((rd_T70 l0_1 x5_2).f0)) ∧ w38.cell? ⟨gb226, 1, none⟩ = some (.int .u32 ((rd_T70 l0_1 x5_2).f1)) ∧ w38.cell? ⟨gb226, 2, none⟩ = some (.int .u32 ((rd_T70 l0_1 x5_2).f2)) ∧ w38.cell? ⟨gb226, 3, none⟩ = some (.int .u8 ((rd_T70 l0_1 x5_2).f3)) := hS_
                          obtain ⟨Ao39, co39, eo39⟩ := Kd.R_slice HO235.out
                          (first | subst eo39 | (injection eo39 with f1_ f2_ f3_; have f4_ := f1_.symm; have f5_ := f3_.symm; clear f1_ f2_ f3_; subst f4_; subst f5_))
                          refine norm_ (a' := ?_) ?_ ?_
                          rotate_left
                          · simp only [putAll, Act.put, List.setIfInBounds_toArray, List.set_cons_zero, List.set_cons_succ]
                            rfl
                          refine one_ (i := 11) (N := some 43) #[true, true, true, true, true, true, true, true, true, true, true, true, true, true, true, false, false] rfl rfl (one_of HT_.out (by kernel_rfl)) (by decide) (fun K hK => ?_)
                          refine goes_ Try.func30 (by kernel_rfl) rfl #[.slice Ao39 t233.length co39, .int .u32 ((rd_T70 l0_1 x5_2).f2)] (by rfl) rfl rfl (by (try simp only [List.map_toArray, List.map_cons, List.map_nil]); first | done | rfl | (simp only [List.length_drop, List.length_take]; rfl)) ?_
                          with_reducible refine (tinctureref7_W32.calls _ _ t233 ((rd_T70 l0_1 x5_2).f2) t236 _ ?side1 ?side2 A21.out).mono ?_
                          (case side1 => repeat (first | exact (Kd.R_reads' HO235.out).2.2 | (with_reducible refine Kd.C_alloc ?_ _) | (with_reducible refine Kd.C_drewN ?_ _) | (with_reducible refine Kd.C_drew ?_)))
                          (case side2 => exact (Kd.R_reads' HO235.out).2.1)
                          rintro e w40 ⟨v237, rfl, ho0, hb⟩
                          refine ⟨_, rfl, ?_⟩
                          have n0_ := Aside0.mk (Kd.R_elder' (by (with_reducible repeat (first | apply Kd.R_alloc | apply Kd.R_drewN | apply Kd.R_drew)); exact HO229.out) (Kd.R_base ho0) hb)
                          have n1_ := Aside0.mk (Kd.R_elder' (by (with_reducible repeat (first | apply Kd.R_alloc | apply Kd.R_drewN | apply Kd.R_drew)); exact HO232.out) (Kd.R_base ho0) hb)
                          have n2_ := Aside0.mk (Kd.R_elder' (by (with_reducible repeat (first | apply Kd.R_alloc | apply Kd.R_drewN | apply Kd.R_drew)); exact HO235.out) (Kd.R_base ho0) hb)
                          have n3_ := Aside0.mk (Kd.R_elder' (by (with_reducible repeat (first | apply Kd.R_alloc | apply Kd.R_drewN | apply Kd.R_drew)); exact HO241.out) (Kd.R_base ho0) hb)
                          have n4_ := Aside0.mk (Kd.R_lower (Kd.R_new' (Kd.R_new' (Kd.R_new' (Kd.R_new' ho0 (Kd.R_lt (by (with_reducible repeat (first | apply Kd.R_alloc | apply Kd.R_drewN | apply Kd.R_drew)); exact HO229.out))) (Kd.R_lt (by (with_reducible repeat (first | apply Kd.R_alloc | apply Kd.R_drewN | apply Kd.R_drew)); exact HO232.out))) (Kd.R_lt (by (with_reducible repeat (first | apply Kd.R_alloc | apply Kd.R_drewN | apply Kd.R_drew)); exact HO235.out))) (Kd.R_lt (by (with_reducible repeat (first | apply Kd.R_alloc | apply Kd.R_drewN | apply Kd.R_drew)); exact HO241.out))) (below_size (by repeat (first | (with_reducible first | exact HB.out | apply below_alloc | apply pw_below_drewN | apply below_drew1 | refine below_set ?_ GE219.out | refine below_set ?_ GE226.out) | exact HB.out))))
                          have n5_ := Aside0.mk (blk_below (g := gb219) (o := .cells #[.bool a0_0, .slice (some ad225) l0_1.length c0_1, .slice A0_2 l0_2.length c0_2] 46 (0, 0)) (by (with_reducible repeat (first | refine blk_drewN ?_ _ | refine blk_drew ?_ | refine blk_alloc ?_ _)); exact BK219.out) hb)
                          have n6_ := Aside0.mk (blk_below (g := gb226) (o := .cells #[.int .i64 ((rd_T70 l0_1 x5_2).f0), .int .u32 ((rd_T70 l0_1 x5_2).f1), .int .u32 ((rd_T70 l0_1 x5_2).f2), .int .u8 ((rd_T70 l0_1 x5_2).f3)] 70 (0, 0)) (by (with_reducible repeat (first | refine blk_drewN ?_ _ | refine blk_drew ?_ | refine blk_alloc ?_ _)); exact BK226.out) hb)
                          have n7_ := Aside0.mk (below_step (by repeat (first | (with_reducible first | exact HB.out | apply below_alloc | apply pw_below_drewN | apply below_drew1 | refine below_set ?_ GE219.out | refine below_set ?_ GE226.out) | exact HB.out)) hb)
                          clear HO229
                          clear HO232
                          clear HO235
                          clear HO241
                          clear BK219
                          clear BK226
                          clear HB
                          have HO229 := n0_
                          have HO232 := n1_
                          have HO235 := n2_
                          have HO241 := n3_
                          have HO238 := n4_
                          have BK219 := n5_
                          have BK226 := n6_
                          have HB := n7_
                          clear n0_ n1_ n2_ n3_ n4_ n5_ n6_ n7_
                          (try clear hb)
                          (try clear hb2)
                          (try clear hk)
                          (try clear hi)
                          (try clear ho0)
                          refine hK.out _ _ ⟨(blk_cell BK226.out 0).trans rfl, (blk_cell BK226.out 1).trans rfl, (blk_cell BK226.out 2).trans rfl, (blk_cell BK226.out 3).trans rfl⟩ (fun hHeld => ?_)
                          clear hK K
                          refine norm_ (a' := ?_) ?_ ?_
                          rotate_left
                          · show Act.put _ (some 43) _ = _
                            simp only [Act.put, List.setIfInBounds_toArray, List.set_cons_zero, List.set_cons_succ, i64_w, i32_w]
                            rfl
                          exact norm_ (by first | (simp only [putAll, Act.put, List.setIfInBounds_toArray, List.set_cons_zero, List.set_cons_succ]; done) | (simp only [putAll, Act.put, List.setIfInBounds_toArray, List.set_cons_zero, List.set_cons_succ]; rfl)) (hJ4_5_8_11_14 (_, _, .slice Ao39 t233.length co39, v237, v240) _ ⟨hHeld, (by (with_reducible repeat (first | apply Kd.R_alloc | apply Kd.R_drewN | apply Kd.R_drew)); exact Kd.R_mono HO229.out (fun _ hk => ⟨hk.1.1, ⟨hk.1.2.1, ⟨hk.2, hk.1.2.2⟩⟩⟩)), (by (with_reducible repeat (first | apply Kd.R_alloc | apply Kd.R_drewN | apply Kd.R_drew)); exact Kd.R_mono HO232.out (fun _ hk => ⟨hk.1.1, ⟨hk.1.2.1, ⟨hk.2, hk.1.2.2⟩⟩⟩)), (by (with_reducible repeat (first | apply Kd.R_alloc | apply Kd.R_drewN | apply Kd.R_drew)); exact Kd.R_mono HO235.out (fun _ hk => ⟨hk.1.1, ⟨hk.1.2.1, ⟨hk.2, hk.1.2.2⟩⟩⟩)), (by (with_reducible repeat (first | apply Kd.R_alloc | apply Kd.R_drewN | apply Kd.R_drew)); exact Kd.R_mono HO238.out (fun _ hk => ⟨hk.1.1.1.2, ⟨hk.1.1.2, ⟨hk.1.2, hk.2⟩⟩⟩)), (by (with_reducible repeat (first | apply Kd.R_alloc | apply Kd.R_drewN | apply Kd.R_drew)); exact Kd.R_mono HO241.out (fun _ hk => ⟨hk.1.1, ⟨hk.1.2.1, ⟨hk.1.2.2, hk.2⟩⟩⟩)), (by (with_reducible repeat (first | refine blk_drewN ?_ _ | refine blk_drew ?_ | refine blk_alloc ?_ _)); exact BK219.out), (by (with_reducible repeat (first | refine blk_drewN ?_ _ | refine blk_drew ?_ | refine blk_alloc ?_ _)); exact BK226.out), (by repeat (first | (with_reducible first | exact HB.out | apply below_alloc | apply pw_below_drewN | apply below_drew1 | refine below_set ?_ GE219.out | refine below_set ?_ GE226.out) | exact HB.out))⟩)
                      · skip
                        rintro ⟨v228, v231, v234, v237⟩ w38 ⟨hS_, h0_, h1_, h2_, h3_, h4_, h5_, h6_⟩
                        have n0_ : Aside0 (Kd.R (Kd.int .u8) 5 w38 w.heap.size (fun k_ => some k_ ≠ (v231 : Value).ownBlock ∧ some k_ ≠ (v234 : Value).ownBlock ∧ some k_ ≠ (v237 : Value).ownBlock) v228 y227) := ⟨h0_⟩
                        have n1_ : Aside0 (Kd.R (Kd.int .u8) 5 w38 w.heap.size (fun k_ => some k_ ≠ (v228 : Value).ownBlock ∧ some k_ ≠ (v234 : Value).ownBlock ∧ some k_ ≠ (v237 : Value).ownBlock) v231 y230) := ⟨h1_⟩
                        have n2_ : Aside0 (Kd.R (Kd.int .u8) 5 w38 w.heap.size (fun k_ => some k_ ≠ (v228 : Value).ownBlock ∧ some k_ ≠ (v231 : Value).ownBlock ∧ some k_ ≠ (v237 : Value).ownBlock) v234 t233) := ⟨h2_⟩
                        have n3_ : Aside0 (Kd.R (Kd.int .u8) 5 w38 w.heap.size (fun k_ => some k_ ≠ (v228 : Value).ownBlock ∧ some k_ ≠ (v231 : Value).ownBlock ∧ some k_ ≠ (v234 : Value).ownBlock) v237 t236) := ⟨h3_⟩
                        have n4_ : Aside0 (w38.heap[gb219]? = some (.cells #[.bool a0_0, .slice (some ad225) l0_1.length c0_1, .slice A0_2 l0_2.length c0_2] 46 (0, 0))) := ⟨h4_⟩
                        have n5_ : Aside0 (w38.heap[gb226]? = some (.cells #[.int .i64 ((rd_T70 l0_1 x5_2).f0), .int .u32 ((rd_T70 l0_1 x5_2).f1), .int .u32 ((rd_T70 l0_1 x5_2).f2), .int .u8 ((rd_T70 l0_1 x5_2).f3)] 70 (0, 0))) := ⟨h5_⟩
                        have n6_ : Aside0 (Below w.heap.size w w38) := ⟨h6_⟩
                        clear HO_4
                        clear BK219
                        clear BK226
                        clear HB
                        clear h0_ h1_ h2_ h3_ h4_ h5_ h6_
                        have HO229 := n0_
                        have HO232 := n1_
                        have HO235 := n2_
                        have HO238 := n3_
                        have BK219 := n4_
                        have BK226 := n5_
                        have HB := n6_
                        clear n0_ n1_ n2_ n3_ n4_ n5_ n6_
                        have hHeld : w38.cell? ⟨gb226, 0, none⟩ = some (.int .i64 ((rd_T70 l0_1 x5_2).f0)) ∧ w38.cell? ⟨gb226, 1, none⟩ = some (.int .u32 ((rd_T70 l0_1 x5_2).f1)) ∧ w38.cell? ⟨gb226, 2, none⟩ = some (.int .u32 ((rd_T70 l0_1 x5_2).f2)) ∧ w38.cell? ⟨gb226, 3, none⟩ = some (.int .u8 ((rd_T70 l0_1 x5_2).f3)) := hS_
                        refine norm_ (a' := ?_) ?_ ?_
                        rotate_left
                        · simp only [putAll, Act.put, List.setIfInBounds_toArray, List.set_cons_zero, List.set_cons_succ]
                          rfl
                        refine one_ (i := 14) (N := some 46) #[true, true, true, true, true, true, true, true, true, true, true, true, true, true, true, false, false] rfl rfl (one_of HT_.out (by kernel_rfl)) (by decide) (fun K hK => ?_)
                        refine Kd.R_lit_step (Kd.int .u8) _ 5 ?hg (N := 46) ?hd (xs := ([(rd_T70 l0_1 x5_2).f3] : List Int)) (inner := [.int .u8 ((rd_T70 l0_1 x5_2).f3)]) (ok := fun _ => True) (okp := fun _ => True) ?hr ?hp (fun _ hk => hk) trivial (Below.refl _ _) (Nat.le_refl _) (by simp) ?_; (case hd => rfl); (case hg => rfl); (case hr => first | (go_simp; done) | (go_simp; rfl)); (case hp => exact (Reps.one (show Kd.M (Kd.int .u8) _ _ _ ((rd_T70 l0_1 x5_2).f3) [.int .u8 ((rd_T70 l0_1 x5_2).f3)] from rfl) (Reps.none _ _)))
                        intro v240 w39 ho40 hb hg_ hnew_
                        clear hg_ hnew_
                        (first | rw [← Ny239.out] at ho40 | (simp only [Int.reduceToNat] at ho40; rw [← Ny239.out] at ho40))
                        have n0_ := Aside0.mk (Kd.R_elder' (by (with_reducible repeat (first | apply Kd.R_alloc | apply Kd.R_drewN | apply Kd.R_drew)); exact HO229.out) (Kd.R_base ho40) hb)
                        have n1_ := Aside0.mk (Kd.R_elder' (by (with_reducible repeat (first | apply Kd.R_alloc | apply Kd.R_drewN | apply Kd.R_drew)); exact HO232.out) (Kd.R_base ho40) hb)
                        have n2_ := Aside0.mk (Kd.R_elder' (by (with_reducible repeat (first | apply Kd.R_alloc | apply Kd.R_drewN | apply Kd.R_drew)); exact HO235.out) (Kd.R_base ho40) hb)
                        have n3_ := Aside0.mk (Kd.R_elder' (by (with_reducible repeat (first | apply Kd.R_alloc | apply Kd.R_drewN | apply Kd.R_drew)); exact HO238.out) (Kd.R_base ho40) hb)
                        have n4_ := Aside0.mk (Kd.R_lower (Kd.R_new' (Kd.R_new' (Kd.R_new' (Kd.R_new' ho40 (Kd.R_lt (by (with_reducible repeat (first | apply Kd.R_alloc | apply Kd.R_drewN | apply Kd.R_drew)); exact HO229.out))) (Kd.R_lt (by (with_reducible repeat (first | apply Kd.R_alloc | apply Kd.R_drewN | apply Kd.R_drew)); exact HO232.out))) (Kd.R_lt (by (with_reducible repeat (first | apply Kd.R_alloc | apply Kd.R_drewN | apply Kd.R_drew)); exact HO235.out))) (Kd.R_lt (by (with_reducible repeat (first | apply Kd.R_alloc | apply Kd.R_drewN | apply Kd.R_drew)); exact HO238.out))) (below_size (by repeat (first | (with_reducible first | exact HB.out | apply below_alloc | apply pw_below_drewN | apply below_drew1 | refine below_set ?_ GE219.out | refine below_set ?_ GE226.out) | exact HB.out))))
                        have n5_ := Aside0.mk (blk_below (g := gb219) (o := .cells #[.bool a0_0, .slice (some ad225) l0_1.length c0_1, .slice A0_2 l0_2.length c0_2] 46 (0, 0)) (by (with_reducible repeat (first | refine blk_drewN ?_ _ | refine blk_drew ?_ | refine blk_alloc ?_ _)); exact BK219.out) hb)
                        have n6_ := Aside0.mk (blk_below (g := gb226) (o := .cells #[.int .i64 ((rd_T70 l0_1 x5_2).f0), .int .u32 ((rd_T70 l0_1 x5_2).f1), .int .u32 ((rd_T70 l0_1 x5_2).f2), .int .u8 ((rd_T70 l0_1 x5_2).f3)] 70 (0, 0)) (by (with_reducible repeat (first | refine blk_drewN ?_ _ | refine blk_drew ?_ | refine blk_alloc ?_ _)); exact BK226.out) hb)
                        have n7_ := Aside0.mk (below_step (by repeat (first | (with_reducible first | exact HB.out | apply below_alloc | apply pw_below_drewN | apply below_drew1 | refine below_set ?_ GE219.out | refine below_set ?_ GE226.out) | exact HB.out)) hb)
                        clear HO229
                        clear HO232
                        clear HO235
                        clear HO238
                        clear BK219
                        clear BK226
                        clear HB
                        have HO229 := n0_
                        have HO232 := n1_
                        have HO235 := n2_
                        have HO238 := n3_
                        have HO241 := n4_
                        have BK219 := n5_
                        have BK226 := n6_
                        have HB := n7_
                        clear n0_ n1_ n2_ n3_ n4_ n5_ n6_ n7_
                        clear hb ho40
                        refine hK.out _ _ ⟨(blk_cell BK226.out 0).trans rfl, (blk_cell BK226.out 1).trans rfl, (blk_cell BK226.out 2).trans rfl, (blk_cell BK226.out 3).trans rfl⟩ (fun hHeld => ?_)
                        clear hK K
                        refine norm_ (a' := ?_) ?_ ?_
                        rotate_left
                        · show Act.put _ (some 46) _ = _
                          simp only [Act.put, List.setIfInBounds_toArray, List.set_cons_zero, List.set_cons_succ, i64_w, i32_w]
                          rfl
                        exact norm_ (by first | (simp only [putAll, Act.put, List.setIfInBounds_toArray, List.set_cons_zero, List.set_cons_succ]; done) | (simp only [putAll, Act.put, List.setIfInBounds_toArray, List.set_cons_zero, List.set_cons_succ]; rfl)) (hJ4_5_8_11_14 (_, _, _, v237, v240) _ ⟨hHeld, (by (with_reducible repeat (first | apply Kd.R_alloc | apply Kd.R_drewN | apply Kd.R_drew)); exact Kd.R_mono HO229.out (fun _ hk => ⟨hk.1.1, ⟨hk.1.2.1, ⟨hk.1.2.2, hk.2⟩⟩⟩)), (by (with_reducible repeat (first | apply Kd.R_alloc | apply Kd.R_drewN | apply Kd.R_drew)); exact Kd.R_mono HO232.out (fun _ hk => ⟨hk.1.1, ⟨hk.1.2.1, ⟨hk.1.2.2, hk.2⟩⟩⟩)), (by (with_reducible repeat (first | apply Kd.R_alloc | apply Kd.R_drewN | apply Kd.R_drew)); exact Kd.R_mono HO235.out (fun _ hk => ⟨hk.1.1, ⟨hk.1.2.1, ⟨hk.1.2.2, hk.2⟩⟩⟩)), (by (with_reducible repeat (first | apply Kd.R_alloc | apply Kd.R_drewN | apply Kd.R_drew)); exact Kd.R_mono HO238.out (fun _ hk => ⟨hk.1.1, ⟨hk.1.2.1, ⟨hk.1.2.2, hk.2⟩⟩⟩)), (by (with_reducible repeat (first | apply Kd.R_alloc | apply Kd.R_drewN | apply Kd.R_drew)); exact Kd.R_mono HO241.out (fun _ hk => ⟨hk.1.1.1.2, ⟨hk.1.1.2, ⟨hk.1.2, hk.2⟩⟩⟩)), (by (with_reducible repeat (first | refine blk_drewN ?_ _ | refine blk_drew ?_ | refine blk_alloc ?_ _)); exact BK219.out), (by (with_reducible repeat (first | refine blk_drewN ?_ _ | refine blk_drew ?_ | refine blk_alloc ?_ _)); exact BK226.out), (by repeat (first | (with_reducible first | exact HB.out | apply below_alloc | apply pw_below_drewN | apply below_drew1 | refine below_set ?_ GE219.out | refine below_set ?_ GE226.out) | exact HB.out))⟩)
                    rintro ⟨v228, v231, v234, v237, v240⟩ w40 ⟨hS_, h0_, h1_, h2_, h3_, h4_, h5_, h6_, h7_⟩
                    have n0_ : Aside0 (Kd.R (Kd.int .u8) 5 w40 w.heap.size (fun k_ => some k_ ≠ (v231 : Value).ownBlock ∧ some k_ ≠ (v234 : Value).ownBlock ∧ some k_ ≠ (v237 : Value).ownBlock ∧ some k_ ≠ (v240 : Value).ownBlock) v228 y227) := ⟨h0_⟩
                    have n1_ : Aside0 (Kd.R (Kd.int .u8) 5 w40 w.heap.size (fun k_ => some k_ ≠ (v228 : Value).ownBlock ∧ some k_ ≠ (v234 : Value).ownBlock ∧ some k_ ≠ (v237 : Value).ownBlock ∧ some k_ ≠ (v240 : Value).ownBlock) v231 y230) := ⟨h1_⟩
                    have n2_ : Aside0 (Kd.R (Kd.int .u8) 5 w40 w.heap.size (fun k_ => some k_ ≠ (v228 : Value).ownBlock ∧ some k_ ≠ (v231 : Value).ownBlock ∧ some k_ ≠ (v237 : Value).ownBlock ∧ some k_ ≠ (v240 : Value).ownBlock) v234 t233) := ⟨h2_⟩
                    have n3_ : Aside0 (Kd.R (Kd.int .u8) 5 w40 w.heap.size (fun k_ => some k_ ≠ (v228 : Value).ownBlock ∧ some k_ ≠ (v231 : Value).ownBlock ∧ some k_ ≠ (v234 : Value).ownBlock ∧ some k_ ≠ (v240 : Value).ownBlock) v237 t236) := ⟨h3_⟩
                    have n4_ : Aside0 (Kd.R (Kd.int .u8) 5 w40 w.heap.size (fun k_ => some k_ ≠ (v228 : Value).ownBlock ∧ some k_ ≠ (v231 : Value).ownBlock ∧ some k_ ≠ (v234 : Value).ownBlock ∧ some k_ ≠ (v237 : Value).ownBlock) v240 y239) := ⟨h4_⟩
                    have n5_ : Aside0 (w40.heap[gb219]? = some (.cells #[.bool a0_0, .slice (some ad225) l0_1.length c0_1, .slice A0_2 l0_2.length c0_2] 46 (0, 0))) := ⟨h5_⟩
                    have n6_ : Aside0 (w40.heap[gb226]? = some (.cells #[.int .i64 ((rd_T70 l0_1 x5_2).f0), .int .u32 ((rd_T70 l0_1 x5_2).f1), .int .u32 ((rd_T70 l0_1 x5_2).f2), .int .u8 ((rd_T70 l0_1 x5_2).f3)] 70 (0, 0))) := ⟨h6_⟩
                    have n7_ : Aside0 (Below w.heap.size w w40) := ⟨h7_⟩
                    clear HO_4
                    clear BK219
                    clear BK226
                    clear HB
                    clear h0_ h1_ h2_ h3_ h4_ h5_ h6_ h7_
                    have HO229 := n0_
                    have HO232 := n1_
                    have HO235 := n2_
                    have HO238 := n3_
                    have HO241 := n4_
                    have BK219 := n5_
                    have BK226 := n6_
                    have HB := n7_
                    clear n0_ n1_ n2_ n3_ n4_ n5_ n6_ n7_
                    have hHeld : w40.cell? ⟨gb226, 0, none⟩ = some (.int .i64 ((rd_T70 l0_1 x5_2).f0)) ∧ w40.cell? ⟨gb226, 1, none⟩ = some (.int .u32 ((rd_T70 l0_1 x5_2).f1)) ∧ w40.cell? ⟨gb226, 2, none⟩ = some (.int .u32 ((rd_T70 l0_1 x5_2).f2)) ∧ w40.cell? ⟨gb226, 3, none⟩ = some (.int .u8 ((rd_T70 l0_1 x5_2).f3)) := hS_
                    obtain ⟨Ao42, co42, eo42⟩ := Kd.R_slice HO241.out
                    (first | subst eo42 | (injection eo42 with f1_ f2_ f3_; have f4_ := f1_.symm; have f5_ := f3_.symm; clear f1_ f2_ f3_; subst f4_; subst f5_))
                    refine norm_ (a' := ?_) ?_ ?_
                    rotate_left
                    · simp only [putAll, Act.put, List.setIfInBounds_toArray, List.set_cons_zero, List.set_cons_succ]
                      rfl
                    refine one_ (i := 15) (N := some 47) #[true, true, true, true, true, true, true, true, true, true, true, true, true, true, true, true, false] rfl rfl (one_of HT_.out (by kernel_rfl)) (by decide) (fun K hK => ?_)
                    refine Kd.R_append_rows_step (Kd.int .u8) (w0 := w) w.heap.size (by rfl) (.tmp 43) (.tmp 46) 30 5 (.int .u8 0) 1 rfl Try.underlying30 info5 rfl (by decide) (by omega) v237 t236 y239 _ _ _ (fun k_ => some k_ ≠ (v228 : Value).ownBlock ∧ some k_ ≠ (v231 : Value).ownBlock ∧ some k_ ≠ (v234 : Value).ownBlock ∧ some k_ ≠ (.slice Ao42 y239.length co42 : Value).ownBlock) (fun _ => False) rfl rfl ?aO ?aR (fun _ _ h => h) (fun _ h => h.elim) ?aF ?aB ?aS ?aL ?_
                    (case aR => repeat (first | exact (Kd.R_reads' HO241.out).2.2 | (with_reducible refine Kd.C_alloc ?_ _) | (with_reducible refine Kd.C_drewN ?_ _) | (with_reducible refine Kd.C_drew ?_)))
                    (case aB => exact (by repeat (first | (with_reducible first | exact HB.out | apply below_alloc | apply pw_below_drewN | apply below_drew1 | refine below_set ?_ GE219.out | refine below_set ?_ GE226.out) | exact HB.out)))
                    (case aF => exact (fun k_ hk => ⟨Kd.fresh' (Kd.R_lt (by (with_reducible repeat (first | apply Kd.R_alloc | apply Kd.R_drewN | apply Kd.R_drew)); exact HO229.out)) k_ hk, Kd.fresh' (Kd.R_lt (by (with_reducible repeat (first | apply Kd.R_alloc | apply Kd.R_drewN | apply Kd.R_drew)); exact HO232.out)) k_ hk, Kd.fresh' (Kd.R_lt (by (with_reducible repeat (first | apply Kd.R_alloc | apply Kd.R_drewN | apply Kd.R_drew)); exact HO235.out)) k_ hk, Kd.fresh' (Kd.R_lt (by (with_reducible repeat (first | apply Kd.R_alloc | apply Kd.R_drewN | apply Kd.R_drew)); exact HO241.out)) k_ hk⟩))
                    (case aO => exact (by (with_reducible repeat (first | apply Kd.R_alloc | apply Kd.R_drewN | apply Kd.R_drew)); exact HO238.out))
                    (case aS => exact (below_size (by repeat (first | (with_reducible first | exact HB.out | apply below_alloc | apply pw_below_drewN | apply below_drew1 | refine below_set ?_ GE219.out | refine below_set ?_ GE226.out) | exact HB.out))))
                    (case aL => have := LMc22.out; omega)
                    intro v243 w41 ho hb hg hat
                    rw [← Ny242.out] at ho
                    have n0_ := Aside0.mk (blk_grown (g := gb219) (o := .cells #[.bool a0_0, .slice (some ad225) l0_1.length c0_1, .slice A0_2 l0_2.length c0_2] 46 (0, 0)) (by (with_reducible repeat (first | refine blk_drewN ?_ _ | refine blk_drew ?_ | refine blk_alloc ?_ _)); exact BK219.out) hg (Kd.R_ne HO238.out BK219.out (by decide)))
                    have n1_ := Aside0.mk (blk_grown (g := gb226) (o := .cells #[.int .i64 ((rd_T70 l0_1 x5_2).f0), .int .u32 ((rd_T70 l0_1 x5_2).f1), .int .u32 ((rd_T70 l0_1 x5_2).f2), .int .u8 ((rd_T70 l0_1 x5_2).f3)] 70 (0, 0)) (by (with_reducible repeat (first | refine blk_drewN ?_ _ | refine blk_drew ?_ | refine blk_alloc ?_ _)); exact BK226.out) hg (Kd.R_ne HO238.out BK226.out (by decide)))
                    have n2_ := Aside0.mk (Kd.R_after (ok := (fun k_ => some k_ ≠ (v231 : Value).ownBlock ∧ some k_ ≠ (v234 : Value).ownBlock ∧ some k_ ≠ (.slice Ao42 y239.length co42 : Value).ownBlock)) (by (with_reducible repeat (first | apply Kd.R_alloc | apply Kd.R_drewN | apply Kd.R_drew)); exact Kd.R_mono HO229.out (fun _ hk => ⟨⟨hk.1, ⟨hk.2.1, hk.2.2.2⟩⟩, hk.2.2.1⟩)) hg hat)
                    have n3_ := Aside0.mk (Kd.R_after (ok := (fun k_ => some k_ ≠ (v228 : Value).ownBlock ∧ some k_ ≠ (v234 : Value).ownBlock ∧ some k_ ≠ (.slice Ao42 y239.length co42 : Value).ownBlock)) (by (with_reducible repeat (first | apply Kd.R_alloc | apply Kd.R_drewN | apply Kd.R_drew)); exact Kd.R_mono HO232.out (fun _ hk => ⟨⟨hk.1, ⟨hk.2.1, hk.2.2.2⟩⟩, hk.2.2.1⟩)) hg hat)
                    have n4_ := Aside0.mk (Kd.R_after (ok := (fun k_ => some k_ ≠ (v228 : Value).ownBlock ∧ some k_ ≠ (v231 : Value).ownBlock ∧ some k_ ≠ (.slice Ao42 y239.length co42 : Value).ownBlock)) (by (with_reducible repeat (first | apply Kd.R_alloc | apply Kd.R_drewN | apply Kd.R_drew)); exact Kd.R_mono HO235.out (fun _ hk => ⟨⟨hk.1, ⟨hk.2.1, hk.2.2.2⟩⟩, hk.2.2.1⟩)) hg hat)
                    have n5_ := Aside0.mk (Kd.R_after (ok := (fun k_ => some k_ ≠ (v228 : Value).ownBlock ∧ some k_ ≠ (v231 : Value).ownBlock ∧ some k_ ≠ (v234 : Value).ownBlock)) (by (with_reducible repeat (first | apply Kd.R_alloc | apply Kd.R_drewN | apply Kd.R_drew)); exact Kd.R_mono HO241.out (fun _ hk => ⟨⟨hk.1, ⟨hk.2.1, hk.2.2.1⟩⟩, hk.2.2.2⟩)) hg hat)
                    have n6_ := Aside0.mk (hb)
                    have n7_ := Aside0.mk (ho)
                    clear BK219
                    clear BK226
                    clear HO229
                    clear HO232
                    clear HO235
                    clear HO241
                    clear HB
                    clear HO238
                    have BK219 := n0_
                    have BK226 := n1_
                    have HO229 := n2_
                    have HO232 := n3_
                    have HO235 := n4_
                    have HO241 := n5_
                    have HB := n6_
                    have HO244 := n7_
                    clear n0_ n1_ n2_ n3_ n4_ n5_ n6_ n7_
                    clear ho hb hg hat
                    refine hK.out _ _ ⟨(blk_cell BK226.out 0).trans rfl, (blk_cell BK226.out 1).trans rfl, (blk_cell BK226.out 2).trans rfl, (blk_cell BK226.out 3).trans rfl⟩ (fun hHeld => ?_)
                    clear hK K
                    refine norm_ (a' := ?_) ?_ ?_
                    rotate_left
                    · show Act.put _ (some 47) _ = _
                      simp only [Act.put, List.setIfInBounds_toArray, List.set_cons_zero, List.set_cons_succ, i64_w, i32_w]
                      rfl
                    refine pure_ (i := 16) (N := some 4) (v := ?_) (a' := ?_) #[true, true, true, true, true, true, true, true, true, true, true, true, true, true, true, true, true] rfl rfl (any_of HT_.out (by kernel_rfl)) (fun _ _ _ h => h) (Or.inl ⟨by rfl, ?_⟩) ?_ ?_
                    rotate_left
                    · intro w'
                      go_simp
                      with_reducible rfl
                    rotate_left
                    · simp only [Act.put, List.setIfInBounds_toArray, List.set_cons_zero, List.set_cons_succ, i64_w, i32_w]
                      rfl
                    refine done_ (done_of HT_.out (by kernel_rfl)) ?_
                    try go_wp2
                    go_roundg k2
                    case measure => have := HJ3.out; have := HK2.out; omega
                    case rel => exact ⟨(y242), (wrap64 (x5_2 + 1)), (by first | rfl | (simp; done) | (simp [*]; done)), H', ⟨by have := HJ3.out; have := HK2.out; omega⟩, ⟨by (with_reducible repeat (first | apply Kd.R_alloc | apply Kd.R_drewN | apply Kd.R_drew)); exact Kd.R_mono HO244.out (fun _ hk => trivial)⟩, ⟨by (with_reducible repeat (first | refine blk_drewN ?_ _ | refine blk_drew ?_ | refine blk_alloc ?_ _)); exact BK219.out⟩, ⟨by repeat (first | (with_reducible first | exact HB.out | apply below_alloc | apply pw_below_drewN | apply below_drew1 | refine below_set ?_ GE219.out | refine below_set ?_ GE226.out) | exact HB.out)⟩⟩
                  · rw [if_neg c22] at H
                    exact absurd H (by simp)
                · rw [if_neg c19] at H
                  exact absurd H (by simp)
              · rw [if_neg c18] at H
                exact absurd H (by simp)
            · rw [if_neg c17] at H
              have c17b0 : decide (x5_2 < (l0_1.length : Int)) = false := decide_eq_false c17
              clear c17
              obtain ⟨y245, hy245⟩ : ∃ y_ : List Int, y_ = (([((l0_2.length : Int)) % 256] : List Int)) := ⟨_, rfl⟩
              replace H : (if x4_2.length + y245.length < 140737488355328 then (tinctureref7_PutPolicy.l1 k2 (x4_2 ++ y245) 0 a0_0 l0_1 l0_2) else (none)) = some (r1, r2) := by first | (rw [hy245]; with_reducible exact H) | (have H2_ := (Option.bind_some _ _).symm.trans H; rw [hy245]; with_reducible exact H2_) | (have H2_ := (Option.bind_some _ _).symm.trans H; with_reducible exact H2_) | with_reducible exact H | (rw [hy245]; exact H) | exact H
              have Ny245 := Aside0.mk hy245
              clear hy245
              by_cases c43 : x4_2.length + y245.length < 140737488355328
              · rw [if_pos c43] at H
                have LMc43 := Aside0.mk c43
                clear c43
                obtain ⟨y248, hy248⟩ : ∃ y_ : List Int, y_ = (x4_2 ++ y245) := ⟨_, rfl⟩
                replace H : (tinctureref7_PutPolicy.l1 k2 y248 0 a0_0 l0_1 l0_2) = some (r1, r2) := by first | (rw [hy248]; with_reducible exact H) | (have H2_ := (Option.bind_some _ _).symm.trans H; rw [hy248]; with_reducible exact H2_) | (have H2_ := (Option.bind_some _ _).symm.trans H; with_reducible exact H2_) | with_reducible exact H | (rw [hy248]; exact H) | exact H
                have Ny248 := Aside0.mk hy248
                clear hy248
                have H' := Aside0.mk H
                clear H
                have hcz44_0 : wr.cell? ⟨gb219, 0, none⟩ = some (.bool a0_0) := (blk_cell BK219.out 0).trans rfl
                have hcz44_1 : wr.cell? ⟨gb219, 1, none⟩ = some (.slice A0_1 l0_1.length c0_1) := (blk_cell BK219.out 1).trans rfl
                have hcz44_2 : wr.cell? ⟨gb219, 2, none⟩ = some (.slice A0_2 l0_2.length c0_2) := (blk_cell BK219.out 2).trans rfl
                have hfz44_0 := blk_frozen BK219.out 0
                have hfz44_1 := blk_frozen BK219.out 1
                have hfz44_2 := blk_frozen BK219.out 2
                go_wp2_with (first | ((with_reducible refine gate_dst (N := 53) rfl ?_); refine Kd.R_lit (Kd.int .u8) _ 5 ?hg (N := 53) ?hd (xs := ([((l0_2.length : Int)) % 256] : List Int)) (inner := [.int .u8 (((l0_2.length : Int)) % 256)]) (ok := fun _ => True) (okp := fun _ => True) ?hr ?hp (fun _ hk => hk) trivial (Below.refl _ _) (Nat.le_refl _) (by simp) ?_; (case hd => rfl); (case hg => rfl); (case hr => first | (go_simp; done) | (go_simp; rfl)); (case hp => exact (Reps.one (show Kd.M (Kd.int .u8) _ _ _ (((l0_2.length : Int)) % 256) [.int .u8 (((l0_2.length : Int)) % 256)] from rfl) (Reps.none _ _))); intro v246 w45 ho46 hb hg_ hnew_; clear hg_ hnew_; (first | rw [← Ny245.out] at ho46 | (simp only [Int.reduceToNat] at ho46; rw [← Ny245.out] at ho46)); have n0_ := Aside0.mk (Kd.R_elder' (by (with_reducible repeat (first | apply Kd.R_alloc | apply Kd.R_drewN | apply Kd.R_drew)); exact HO_4.out) (Kd.R_base ho46) hb); have n1_ := Aside0.mk (Kd.R_lower (Kd.R_new' ho46 (Kd.R_lt (by (with_reducible repeat (first | apply Kd.R_alloc | apply Kd.R_drewN | apply Kd.R_drew)); exact HO_4.out))) (below_size (by repeat (first | (with_reducible first | exact HB.out | apply below_alloc | apply pw_below_drewN | apply below_drew1 | refine below_set ?_ GE219.out) | exact HB.out)))); have n2_ := Aside0.mk (blk_below (g := gb219) (o := .cells #[.bool a0_0, .slice A0_1 l0_1.length c0_1, .slice A0_2 l0_2.length c0_2] 46 (0, 0)) (by (with_reducible repeat (first | refine blk_drewN ?_ _ | refine blk_drew ?_ | refine blk_alloc ?_ _)); exact BK219.out) hb); have n3_ := Aside0.mk (below_step (by repeat (first | (with_reducible first | exact HB.out | apply below_alloc | apply pw_below_drewN | apply below_drew1 | refine below_set ?_ GE219.out) | exact HB.out)) hb); clear HO_4; clear BK219; clear HB; have HO_4 := n0_; have HO247 := n1_; have BK219 := n2_; have HB := n3_; clear n0_ n1_ n2_ n3_; clear hb ho46; obtain ⟨Ao48, co48, eo48⟩ := Kd.R_slice HO247.out; subst eo48) | ((with_reducible refine gate_builtin (b := .append) (xs := #[.tmp 48, .tmp 53]) rfl ?_); at_builtin; refine Kd.R_append_rows (Kd.int .u8) (w0 := w) w.heap.size rfl (.tmp 48) (.tmp 53) 30 5 (.int .u8 0) 1 rfl Try.underlying30 info5 rfl (by decide) (by omega) u4 x4_2 y245 _ _ _ (fun k_ => some k_ ≠ (.slice Ao48 y245.length co48 : Value).ownBlock) (fun _ => False) rfl rfl ?aO ?aR (fun _ _ h => h) (fun _ h => h.elim) ?aF ?aB ?aS ?aL ?_; (case aR => repeat (first | exact (Kd.R_reads' HO247.out).2.2 | (with_reducible refine Kd.C_alloc ?_ _) | (with_reducible refine Kd.C_drewN ?_ _) | (with_reducible refine Kd.C_drew ?_))); (case aB => exact (by repeat (first | (with_reducible first | exact HB.out | apply below_alloc | apply pw_below_drewN | apply below_drew1 | refine below_set ?_ GE219.out) | exact HB.out))); (case aF => exact (fun k_ hk => Kd.fresh' (Kd.R_lt (by (with_reducible repeat (first | apply Kd.R_alloc | apply Kd.R_drewN | apply Kd.R_drew)); exact HO247.out)) k_ hk)); (case aO => exact (by (with_reducible repeat (first | apply Kd.R_alloc | apply Kd.R_drewN | apply Kd.R_drew)); exact Kd.R_mono HO_4.out (fun _ hk => hk.2))); (case aS => exact (below_size (by repeat (first | (with_reducible first | exact HB.out | apply below_alloc | apply pw_below_drewN | apply below_drew1 | refine below_set ?_ GE219.out) | exact HB.out)))); (case aL => have := LMc43.out; omega); intro v249 w47 ho hb hg hat; rw [← Ny248.out] at ho; have n0_ := Aside0.mk (blk_grown (g := gb219) (o := .cells #[.bool a0_0, .slice A0_1 l0_1.length c0_1, .slice A0_2 l0_2.length c0_2] 46 (0, 0)) (by (with_reducible repeat (first | refine blk_drewN ?_ _ | refine blk_drew ?_ | refine blk_alloc ?_ _)); exact BK219.out) hg (Kd.R_ne HO_4.out BK219.out (by decide))); have n1_ := Aside0.mk (Kd.R_after (ok := (fun _ => True)) (by (with_reducible repeat (first | apply Kd.R_alloc | apply Kd.R_drewN | apply Kd.R_drew)); exact HO247.out) hg hat); have n2_ := Aside0.mk (hb); have n3_ := Aside0.mk (ho); clear BK219; clear HO247; clear HB; clear HO_4; have BK219 := n0_; have HO247 := n1_; have HB := n2_; have HO250 := n3_; clear n0_ n1_ n2_ n3_; clear ho hb hg hat))
                go_loopg [4, 7] k2 (fun kq v4 v7 w' => ∃ (x4_3 : List Int) (x7_3 : Int), v7 = .int .i64 x7_3 ∧ Aside0 (tinctureref7_PutPolicy.l1 kq x4_3 x7_3 a0_0 l0_1 l0_2 = some (r1, r2)) ∧ Aside0 (kq ≤ k2) ∧ Aside0 (Kd.R (Kd.int .u8) 5 w' w.heap.size (fun _ => True) v4 x4_3) ∧ Aside0 (w'.heap[gb219]? = some (.cells #[.bool a0_0, (.slice A0_1 l0_1.length c0_1), (.slice A0_2 l0_2.length c0_2)] 46 (0, 0))) ∧ Aside0 (Below w.heap.size w w'))
                case atStart => exact ⟨(y248), (0), (by first | rfl | (simp; done) | (simp [*]; done)), H', ⟨Nat.le_refl _⟩, ⟨by (with_reducible repeat (first | apply Kd.R_alloc | apply Kd.R_drewN | apply Kd.R_drew)); exact Kd.R_mono HO250.out (fun _ hk => trivial)⟩, ⟨by (with_reducible repeat (first | refine blk_drewN ?_ _ | refine blk_drew ?_ | refine blk_alloc ?_ _)); exact BK219.out⟩, ⟨by repeat (first | (with_reducible first | exact HB.out | apply below_alloc | apply pw_below_drewN | apply below_drew1 | refine below_set ?_ GE219.out) | exact HB.out)⟩⟩
                case round =>
                  clear H'
                  try clear c1
                  try clear c2
                  try clear p2
                  try clear c3
                  try clear c4
                  try clear p6
                  try clear c17
                  try clear c17b0
                  try clear c18
                  try clear c19
                  try clear c22
                  try clear c30
                  try clear c43
                  try clear hcz44_0
                  try clear hcz44_1
                  try clear hcz44_2
                  try clear hfz44_0
                  try clear hfz44_1
                  try clear hfz44_2
                  obtain ⟨x4_3, x7_3, rfl, HA, HK3, HO_4, BK219, HB⟩ := hrel
                  cases gk with
                  | zero => exact absurd HA.out (by simp [tinctureref7_PutPolicy.l1])
                  | succ k3 =>
                    have H := HA.out
                    clear HA
                    simp only [tinctureref7_PutPolicy.l1] at H
                    by_cases c49 : x7_3 < (l0_2.length : Int)
                    · rw [if_pos c49] at H
                      have c49b0 : decide (x7_3 < (l0_2.length : Int)) = true := decide_eq_true c49
                      clear c49
                      by_cases c50 : 0 ≤ x7_3
                      · rw [if_pos c50] at H
                        have c50b0 : decide (0 ≤ x7_3) = true := decide_eq_true c50
                        clear c50
                        obtain ⟨y254, hy254⟩ : ∃ y_ : List Int, y_ = (([((rd_T71 l0_2 x7_3).f0) % 256, ((rd_T71 l0_2 x7_3).f1) % 256, (rd_T71 l0_2 x7_3).f2] : List Int)) := ⟨_, rfl⟩
                        replace H : (if x4_3.length + y254.length < 140737488355328 then (tinctureref7_PutPolicy.l1 k3 (x4_3 ++ y254) (wrap64 (x7_3 + 1)) a0_0 l0_1 l0_2) else (none)) = some (r1, r2) := by first | (rw [hy254]; with_reducible exact H) | (have H2_ := (Option.bind_some _ _).symm.trans H; rw [hy254]; with_reducible exact H2_) | (have H2_ := (Option.bind_some _ _).symm.trans H; with_reducible exact H2_) | with_reducible exact H | (rw [hy254]; exact H) | exact H
                        have Ny254 := Aside0.mk hy254
                        clear hy254
                        by_cases c51 : x4_3.length + y254.length < 140737488355328
                        · rw [if_pos c51] at H
                          have LMc51 := Aside0.mk c51
                          clear c51
                          obtain ⟨y257, hy257⟩ : ∃ y_ : List Int, y_ = (x4_3 ++ y254) := ⟨_, rfl⟩
                          replace H : (tinctureref7_PutPolicy.l1 k3 y257 (wrap64 (x7_3 + 1)) a0_0 l0_1 l0_2) = some (r1, r2) := by first | (rw [hy257]; with_reducible exact H) | (have H2_ := (Option.bind_some _ _).symm.trans H; rw [hy257]; with_reducible exact H2_) | (have H2_ := (Option.bind_some _ _).symm.trans H; with_reducible exact H2_) | with_reducible exact H | (rw [hy257]; exact H) | exact H
                          have Ny257 := Aside0.mk hy257
                          clear hy257
                          have H' := Aside0.mk H
                          clear H
                          have hcz52_0 : wr.cell? ⟨gb219, 0, none⟩ = some (.bool a0_0) := (blk_cell BK219.out 0).trans rfl
                          have hcz52_1 : wr.cell? ⟨gb219, 1, none⟩ = some (.slice A0_1 l0_1.length c0_1) := (blk_cell BK219.out 1).trans rfl
                          have hcz52_2 : wr.cell? ⟨gb219, 2, none⟩ = some (.slice A0_2 l0_2.length c0_2) := (blk_cell BK219.out 2).trans rfl
                          have hfz52_0 := blk_frozen BK219.out 0
                          have hfz52_1 := blk_frozen BK219.out 1
                          have hfz52_2 := blk_frozen BK219.out 2
                          try go_wp2
                          have n0_ := Aside0.mk (Kd.R_drew HO_4.out)
                          have n1_ := Aside0.mk (blk_drew BK219.out)
                          have n2_ := Aside0.mk (below_drew1 HB.out)
                          clear HO_4
                          clear BK219
                          clear HB
                          have HO_4 := n0_
                          have BK219 := n1_
                          have HB := n2_
                          clear n0_ n1_ n2_
                          have p251 : 0 ≤ (x7_3 : Int) := of_decide_eq_true (by first | (with_reducible assumption) | assumption)
                          have q251 : x7_3 < (l0_2.length : Int) := of_decide_eq_true (by first | (with_reducible assumption) | assumption)
                          obtain ⟨ad251, e251, hx251_0, hx251_1, hx251_2⟩ := at_T71 HR0_2.out x7_3 p251 q251
                          have hw251_2 := hx251_2
                          have hw251_1 := hx251_1
                          have hw251_0 := hx251_0
                          cases e251
                          replace hx251_0 := (HB.out.cell (World.block_lt_of_cell? w _ hx251_0)).trans hx251_0
                          replace hx251_1 := (HB.out.cell (World.block_lt_of_cell? w _ hx251_1)).trans hx251_1
                          replace hx251_2 := (HB.out.cell (World.block_lt_of_cell? w _ hx251_2)).trans hx251_2
                          replace p251 := eq_true p251
                          replace q251 := eq_true q251
                          have p252 : 0 ≤ (x7_3 : Int) := of_decide_eq_true (by first | (with_reducible assumption) | assumption)
                          have q252 : x7_3 < (l0_2.length : Int) := of_decide_eq_true (by first | (with_reducible assumption) | assumption)
                          obtain ⟨ad252, e252, hx252_0, hx252_1, hx252_2⟩ := at_T71 HR0_2.out x7_3 p252 q252
                          have hw252_2 := hx252_2
                          have hw252_1 := hx252_1
                          have hw252_0 := hx252_0
                          obtain rfl : ad251 = ad252 := (by injection e252)
                          replace hx252_0 := (HB.out.cell (World.block_lt_of_cell? w _ hx252_0)).trans hx252_0
                          replace hx252_1 := (HB.out.cell (World.block_lt_of_cell? w _ hx252_1)).trans hx252_1
                          replace hx252_2 := (HB.out.cell (World.block_lt_of_cell? w _ hx252_2)).trans hx252_2
                          replace p252 := eq_true p252
                          replace q252 := eq_true q252
                          have p253 : 0 ≤ (x7_3 : Int) := of_decide_eq_true (by first | (with_reducible assumption) | assumption)
                          have q253 : x7_3 < (l0_2.length : Int) := of_decide_eq_true (by first | (with_reducible assumption) | assumption)
                          obtain ⟨ad253, e253, hx253_0, hx253_1, hx253_2⟩ := at_T71 HR0_2.out x7_3 p253 q253
                          have hw253_2 := hx253_2
                          have hw253_1 := hx253_1
                          have hw253_0 := hx253_0
                          obtain rfl : ad251 = ad253 := (by injection e253)
                          replace hx253_0 := (HB.out.cell (World.block_lt_of_cell? w _ hx253_0)).trans hx253_0
                          replace hx253_1 := (HB.out.cell (World.block_lt_of_cell? w _ hx253_1)).trans hx253_1
                          replace hx253_2 := (HB.out.cell (World.block_lt_of_cell? w _ hx253_2)).trans hx253_2
                          replace p253 := eq_true p253
                          replace q253 := eq_true q253
                          refine start_ (n := 24) (S := fun w' => w'.cell? ⟨gb219, 0, none⟩ = some (.bool a0_0) ∧ w'.cell? ⟨gb219, 1, none⟩ = some (.slice A0_1 l0_1.length c0_1) ∧ w'.cell? ⟨gb219, 2, none⟩ = some (.slice (some ad251) l0_2.length c0_2) ∧ w'.cell? (ad251.add ((x7_3).toNat * 3)) = some (.int .i64 ((rd_T71 l0_2 x7_3).f0)) ∧ w'.cell? ⟨(ad251.add ((x7_3).toNat * 3)).block, (ad251.add ((x7_3).toNat * 3)).off + 1, none⟩ = some (.int .i64 ((rd_T71 l0_2 x7_3).f1)) ∧ w'.cell? ⟨(ad251.add ((x7_3).toNat * 3)).block, (ad251.add ((x7_3).toNat * 3)).off + 2, none⟩ = some (.int .u8 ((rd_T71 l0_2 x7_3).f2)) ∧ w'.cell? (ad251.add ((x7_3).toNat * 3)) = some (.int .i64 ((rd_T71 l0_2 x7_3).f0)) ∧ w'.cell? ⟨(ad251.add ((x7_3).toNat * 3)).block, (ad251.add ((x7_3).toNat * 3)).off + 1, none⟩ = some (.int .i64 ((rd_T71 l0_2 x7_3).f1)) ∧ w'.cell? ⟨(ad251.add ((x7_3).toNat * 3)).block, (ad251.add ((x7_3).toNat * 3)).off + 2, none⟩ = some (.int .u8 ((rd_T71 l0_2 x7_3).f2)) ∧ w'.cell? (ad251.add ((x7_3).toNat * 3)) = some (.int .i64 ((rd_T71 l0_2 x7_3).f0)) ∧ w'.cell? ⟨(ad251.add ((x7_3).toNat * 3)).block, (ad251.add ((x7_3).toNat * 3)).off + 1, none⟩ = some (.int .i64 ((rd_T71 l0_2 x7_3).f1)) ∧ w'.cell? ⟨(ad251.add ((x7_3).toNat * 3)).block, (ad251.add ((x7_3).toNat * 3)).off + 2, none⟩ = some (.int .u8 ((rd_T71 l0_2 x7_3).f2))) (ds := []) #[false, false, false, false, false, false, false, false, false, false, false, false, false, false, false, false, false, false, false, false, false, false, false, false] (by kernel_rfl) rfl rfl ⟨(blk_cell BK219.out 0).trans rfl, (blk_cell BK219.out 1).trans rfl, (blk_cell BK219.out 2).trans rfl, ((HB.out.cell (World.block_lt_of_cell? w _ hw251_0)).trans hw251_0), ((HB.out.cell (World.block_lt_of_cell? w _ hw251_1)).trans hw251_1), ((HB.out.cell (World.block_lt_of_cell? w _ hw251_2)).trans hw251_2), ((HB.out.cell (World.block_lt_of_cell? w _ hw252_0)).trans hw252_0), ((HB.out.cell (World.block_lt_of_cell? w _ hw252_1)).trans hw252_1), ((HB.out.cell (World.block_lt_of_cell? w _ hw252_2)).trans hw252_2), ((HB.out.cell (World.block_lt_of_cell? w _ hw253_0)).trans hw253_0), ((HB.out.cell (World.block_lt_of_cell? w _ hw253_1)).trans hw253_1), ((HB.out.cell (World.block_lt_of_cell? w _ hw253_2)).trans hw253_2)⟩ (fun hHeld => ?_); refine with_tabW tinctureref7_PutPolicy.tab15 tinctureref7_PutPolicy.bits15 (fun HT_ HW_ => ?_)
                          generalize wr.drew = w53 at HO_4 BK219 HB hx251_0 hx251_1 hx251_2 hx252_0 hx252_1 hx252_2 hx253_0 hx253_1 hx253_2 hHeld ⊢
                          refine pure_ (i := 0) (N := some 62) (v := ?_) (a' := ?_) #[true, false, false, false, false, false, false, false, false, false, false, false, false, false, false, false, false, false, false, false, false, false, false, false] rfl rfl (any_of HT_.out (by kernel_rfl)) (fun _ _ _ h => h) (Or.inl ⟨by rfl, ?_⟩) ?_ ?_
                          rotate_left
                          · intro w'
                            go_simp
                            with_reducible rfl
                          rotate_left
                          · simp only [Act.put, List.setIfInBounds_toArray, List.set_cons_zero, List.set_cons_succ, i64_w, i32_w]
                            rfl
                          refine pure_ (i := 1) (N := some 63) (v := ?_) (a' := ?_) #[true, true, false, false, false, false, false, false, false, false, false, false, false, false, false, false, false, false, false, false, false, false, false, false] rfl rfl (any_of HT_.out (by kernel_rfl)) (fun _ _ _ h => h) (Or.inl ⟨by rfl, ?_⟩) ?_ ?_
                          rotate_left
                          · intro w'
                            go_simp
                            with_reducible rfl
                          rotate_left
                          · simp only [Act.put, List.setIfInBounds_toArray, List.set_cons_zero, List.set_cons_succ, i64_w, i32_w]
                            rfl
                          refine pure_ (i := 3) (N := some 65) (v := ?_) (a' := ?_) #[true, true, false, true, false, false, false, false, false, false, false, false, false, false, false, false, false, false, false, false, false, false, false, false] rfl rfl (any_of HT_.out (by kernel_rfl)) (fun _ _ _ h => h) (Or.inl ⟨by rfl, ?_⟩) ?_ ?_
                          rotate_left
                          · intro w'
                            go_simp
                            with_reducible rfl
                          rotate_left
                          · simp only [Act.put, List.setIfInBounds_toArray, List.set_cons_zero, List.set_cons_succ, i64_w, i32_w]
                            rfl
                          refine pure_ (i := 8) (N := some 70) (v := ?_) (a' := ?_) #[true, true, false, true, false, false, false, false, true, false, false, false, false, false, false, false, false, false, false, false, false, false, false, false] rfl rfl (any_of HT_.out (by kernel_rfl)) (fun _ _ _ h => h) (Or.inl ⟨by rfl, ?_⟩) ?_ ?_
                          rotate_left
                          · intro w'
                            go_simp
                            with_reducible rfl
                          rotate_left
                          · simp only [Act.put, List.setIfInBounds_toArray, List.set_cons_zero, List.set_cons_succ, i64_w, i32_w]
                            rfl
                          refine pure_ (i := 10) (N := some 72) (v := ?_) (a' := ?_) #[true, true, false, true, false, false, false, false, true, false, true, false, false, false, false, false, false, false, false, false, false, false, false, false] rfl rfl (any_of HT_.out (by kernel_rfl)) (fun _ _ _ h => h) (Or.inl ⟨by rfl, ?_⟩) ?_ ?_
                          rotate_left
                          · intro w'
                            go_simp
                            with_reducible rfl
                          rotate_left
                          · simp only [Act.put, List.setIfInBounds_toArray, List.set_cons_zero, List.set_cons_succ, i64_w, i32_w]
                            rfl
                          refine pure_ (i := 15) (N := some 77) (v := ?_) (a' := ?_) #[true, true, false, true, false, false, false, false, true, false, true, false, false, false, false, true, false, false, false, false, false, false, false, false] rfl rfl (any_of HT_.out (by kernel_rfl)) (fun _ _ _ h => h) (Or.inl ⟨by rfl, ?_⟩) ?_ ?_
                          rotate_left
                          · intro w'
                            go_simp
                            with_reducible rfl
                          rotate_left
                          · simp only [Act.put, List.setIfInBounds_toArray, List.set_cons_zero, List.set_cons_succ, i64_w, i32_w]
                            rfl
                          refine pure_ (i := 17) (N := some 79) (v := ?_) (a' := ?_) #[true, true, false, true, false, false, false, false, true, false, true, false, false, false, false, true, false, true, false, false, false, false, false, false] rfl rfl (any_of HT_.out (by kernel_rfl)) (fun _ _ _ h => h) (Or.inl ⟨by rfl, ?_⟩) ?_ ?_
                          rotate_left
                          · intro w'
                            go_simp
                            with_reducible rfl
                          rotate_left
                          · simp only [Act.put, List.setIfInBounds_toArray, List.set_cons_zero, List.set_cons_succ, i64_w, i32_w]
                            rfl
                          refine take_ (i := 2) (N := some 64) (v := ?_) (a' := ?_) #[true, true, true, true, false, false, false, false, true, false, true, false, false, false, false, true, false, true, false, false, false, false, false, false] rfl rfl (take_ofW HT_.out HW_.out (by kernel_rfl)) (fun _ _ _ h => h) (Or.inl ⟨by rfl, ?_⟩) hHeld ?_ ?_
                          rotate_left
                          · rintro w' ⟨s0, s1, s2, s3, s4, s5, s6, s7, s8, s9, s10, s11⟩
                            go_simp
                            with_reducible rfl
                          rotate_left
                          · simp only [Act.put, List.setIfInBounds_toArray, List.set_cons_zero, List.set_cons_succ, i64_w, i32_w]
                            rfl
                          refine pure_ (i := 4) (N := some 66) (v := ?_) (a' := ?_) #[true, true, true, true, true, false, false, false, true, false, true, false, false, false, false, true, false, true, false, false, false, false, false, false] rfl rfl (any_of HT_.out (by kernel_rfl)) (fun _ _ _ h => h) (Or.inl ⟨by rfl, ?_⟩) ?_ ?_
                          rotate_left
                          · intro w'
                            go_simp
                            with_reducible rfl
                          rotate_left
                          · simp only [Act.put, List.setIfInBounds_toArray, List.set_cons_zero, List.set_cons_succ, i64_w, i32_w]
                            rfl
                          refine pure_ (i := 5) (N := some 67) (v := ?_) (a' := ?_) #[true, true, true, true, true, true, false, false, true, false, true, false, false, false, false, true, false, true, false, false, false, false, false, false] rfl rfl (any_of HT_.out (by kernel_rfl)) (fun _ _ _ h => h) (Or.inl ⟨by rfl, ?_⟩) ?_ ?_
                          rotate_left
                          · intro w'
                            go_simp
                            with_reducible rfl
                          rotate_left
                          · simp only [Act.put, List.setIfInBounds_toArray, List.set_cons_zero, List.set_cons_succ, i64_w, i32_w]
                            rfl
                          refine take_ (i := 6) (N := some 68) (v := ?_) (a' := ?_) #[true, true, true, true, true, true, true, false, true, false, true, false, false, false, false, true, false, true, false, false, false, false, false, false] rfl rfl (take_ofW HT_.out HW_.out (by kernel_rfl)) (fun _ _ _ h => h) (Or.inl ⟨by rfl, ?_⟩) hHeld ?_ ?_
                          rotate_left
                          · rintro w' ⟨s0, s1, s2, s3, s4, s5, s6, s7, s8, s9, s10, s11⟩
                            go_simp
                            with_reducible rfl
                          rotate_left
                          · simp only [Act.put, List.setIfInBounds_toArray, List.set_cons_zero, List.set_cons_succ, i64_w, i32_w]
                            rfl
                          refine pure_ (i := 7) (N := some 69) (v := ?_) (a' := ?_) #[true, true, true, true, true, true, true, true, true, false, true, false, false, false, false, true, false, true, false, false, false, false, false, false] rfl rfl (any_of HT_.out (by kernel_rfl)) (fun _ _ _ h => h) (Or.inl ⟨by rfl, ?_⟩) ?_ ?_
                          rotate_left
                          · intro w'
                            go_simp
                            with_reducible rfl
                          rotate_left
                          · simp only [Act.put, List.setIfInBounds_toArray, List.set_cons_zero, List.set_cons_succ, i64_w, i32_w]
                            rfl
                          refine take_ (i := 9) (N := some 71) (v := ?_) (a' := ?_) #[true, true, true, true, true, true, true, true, true, true, true, false, false, false, false, true, false, true, false, false, false, false, false, false] rfl rfl (take_ofW HT_.out HW_.out (by kernel_rfl)) (fun _ _ _ h => h) (Or.inl ⟨by rfl, ?_⟩) hHeld ?_ ?_
                          rotate_left
                          · rintro w' ⟨s0, s1, s2, s3, s4, s5, s6, s7, s8, s9, s10, s11⟩
                            go_simp
                            with_reducible rfl
                          rotate_left
                          · simp only [Act.put, List.setIfInBounds_toArray, List.set_cons_zero, List.set_cons_succ, i64_w, i32_w]
                            rfl
                          refine pure_ (i := 11) (N := some 73) (v := ?_) (a' := ?_) #[true, true, true, true, true, true, true, true, true, true, true, true, false, false, false, true, false, true, false, false, false, false, false, false] rfl rfl (any_of HT_.out (by kernel_rfl)) (fun _ _ _ h => h) (Or.inl ⟨by rfl, ?_⟩) ?_ ?_
                          rotate_left
                          · intro w'
                            go_simp
                            with_reducible rfl
                          rotate_left
                          · simp only [Act.put, List.setIfInBounds_toArray, List.set_cons_zero, List.set_cons_succ, i64_w, i32_w]
                            rfl
                          refine pure_ (i := 12) (N := some 74) (v := ?_) (a' := ?_) #[true, true, true, true, true, true, true, true, true, true, true, true, true, false, false, true, false, true, false, false, false, false, false, false] rfl rfl (any_of HT_.out (by kernel_rfl)) (fun _ _ _ h => h) (Or.inl ⟨by rfl, ?_⟩) ?_ ?_
                          rotate_left
                          · intro w'
                            go_simp
                            with_reducible rfl
                          rotate_left
                          · simp only [Act.put, List.setIfInBounds_toArray, List.set_cons_zero, List.set_cons_succ, i64_w, i32_w]
                            rfl
                          refine take_ (i := 13) (N := some 75) (v := ?_) (a' := ?_) #[true, true, true, true, true, true, true, true, true, true, true, true, true, true, false, true, false, true, false, false, false, false, false, false] rfl rfl (take_ofW HT_.out HW_.out (by kernel_rfl)) (fun _ _ _ h => h) (Or.inl ⟨by rfl, ?_⟩) hHeld ?_ ?_
                          rotate_left
                          · rintro w' ⟨s0, s1, s2, s3, s4, s5, s6, s7, s8, s9, s10, s11⟩
                            go_simp
                            with_reducible rfl
                          rotate_left
                          · simp only [Act.put, List.setIfInBounds_toArray, List.set_cons_zero, List.set_cons_succ, i64_w, i32_w]
                            rfl
                          refine pure_ (i := 14) (N := some 76) (v := ?_) (a' := ?_) #[true, true, true, true, true, true, true, true, true, true, true, true, true, true, true, true, false, true, false, false, false, false, false, false] rfl rfl (any_of HT_.out (by kernel_rfl)) (fun _ _ _ h => h) (Or.inl ⟨by rfl, ?_⟩) ?_ ?_
                          rotate_left
                          · intro w'
                            go_simp
                            with_reducible rfl
                          rotate_left
                          · simp only [Act.put, List.setIfInBounds_toArray, List.set_cons_zero, List.set_cons_succ, i64_w, i32_w]
                            rfl
                          refine take_ (i := 16) (N := some 78) (v := ?_) (a' := ?_) #[true, true, true, true, true, true, true, true, true, true, true, true, true, true, true, true, true, true, false, false, false, false, false, false] rfl rfl (take_ofW HT_.out HW_.out (by kernel_rfl)) (fun _ _ _ h => h) (Or.inl ⟨by rfl, ?_⟩) hHeld ?_ ?_
                          rotate_left
                          · rintro w' ⟨s0, s1, s2, s3, s4, s5, s6, s7, s8, s9, s10, s11⟩
                            go_simp
                            with_reducible rfl
                          rotate_left
                          · simp only [Act.put, List.setIfInBounds_toArray, List.set_cons_zero, List.set_cons_succ, i64_w, i32_w]
                            rfl
                          refine pure_ (i := 18) (N := some 80) (v := ?_) (a' := ?_) #[true, true, true, true, true, true, true, true, true, true, true, true, true, true, true, true, true, true, true, false, false, false, false, false] rfl rfl (any_of HT_.out (by kernel_rfl)) (fun _ _ _ h => h) (Or.inl ⟨by rfl, ?_⟩) ?_ ?_
                          rotate_left
                          · intro w'
                            go_simp
                            with_reducible rfl
                          rotate_left
                          · simp only [Act.put, List.setIfInBounds_toArray, List.set_cons_zero, List.set_cons_succ, i64_w, i32_w]
                            rfl
                          refine pure_ (i := 19) (N := some 81) (v := ?_) (a' := ?_) #[true, true, true, true, true, true, true, true, true, true, true, true, true, true, true, true, true, true, true, true, false, false, false, false] rfl rfl (any_of HT_.out (by kernel_rfl)) (fun _ _ _ h => h) (Or.inl ⟨by rfl, ?_⟩) ?_ ?_
                          rotate_left
                          · intro w'
                            go_simp
                            with_reducible rfl
                          rotate_left
                          · simp only [Act.put, List.setIfInBounds_toArray, List.set_cons_zero, List.set_cons_succ, i64_w, i32_w]
                            rfl
                          refine take_ (i := 20) (N := some 82) (v := ?_) (a' := ?_) #[true, true, true, true, true, true, true, true, true, true, true, true, true, true, true, true, true, true, true, true, true, false, false, false] rfl rfl (take_ofW HT_.out HW_.out (by kernel_rfl)) (fun _ _ _ h => h) (Or.inl ⟨by rfl, ?_⟩) hHeld ?_ ?_
                          rotate_left
                          · rintro w' ⟨s0, s1, s2, s3, s4, s5, s6, s7, s8, s9, s10, s11⟩
                            go_simp
                            with_reducible rfl
                          rotate_left
                          · simp only [Act.put, List.setIfInBounds_toArray, List.set_cons_zero, List.set_cons_succ, i64_w, i32_w]
                            rfl
                          refine one_ (i := 21) (N := some 83) #[true, true, true, true, true, true, true, true, true, true, true, true, true, true, true, true, true, true, true, true, true, true, false, false] rfl rfl (one_of HT_.out (by kernel_rfl)) (by decide) (fun K hK => ?_)
                          refine Kd.R_lit_step (Kd.int .u8) _ 5 ?hg (N := 83) ?hd (xs := ([((rd_T71 l0_2 x7_3).f0) % 256, ((rd_T71 l0_2 x7_3).f1) % 256, (rd_T71 l0_2 x7_3).f2] : List Int)) (inner := [.int .u8 (((rd_T71 l0_2 x7_3).f0) % 256), .int .u8 (((rd_T71 l0_2 x7_3).f1) % 256), .int .u8 ((rd_T71 l0_2 x7_3).f2)]) (ok := fun _ => True) (okp := fun _ => True) ?hr ?hp (fun _ hk => hk) trivial (Below.refl _ _) (Nat.le_refl _) (by simp) ?_; (case hd => rfl); (case hg => rfl); (case hr => first | (go_simp; done) | (go_simp; rfl)); (case hp => exact (Reps.one (show Kd.M (Kd.int .u8) _ _ _ (((rd_T71 l0_2 x7_3).f0) % 256) [.int .u8 (((rd_T71 l0_2 x7_3).f0) % 256)] from rfl) (Reps.one (show Kd.M (Kd.int .u8) _ _ _ (((rd_T71 l0_2 x7_3).f1) % 256) [.int .u8 (((rd_T71 l0_2 x7_3).f1) % 256)] from rfl) (Reps.one (show Kd.M (Kd.int .u8) _ _ _ ((rd_T71 l0_2 x7_3).f2) [.int .u8 ((rd_T71 l0_2 x7_3).f2)] from rfl) (Reps.none _ _)))))
                          intro v255 w54 ho55 hb hg_ hnew_
                          clear hg_ hnew_
                          (first | rw [← Ny254.out] at ho55 | (simp only [Int.reduceToNat] at ho55; rw [← Ny254.out] at ho55))
                          have n0_ := Aside0.mk (Kd.R_elder' (by (with_reducible repeat (first | apply Kd.R_alloc | apply Kd.R_drewN | apply Kd.R_drew)); exact HO_4.out) (Kd.R_base ho55) hb)
                          have n1_ := Aside0.mk (Kd.R_lower (Kd.R_new' ho55 (Kd.R_lt (by (with_reducible repeat (first | apply Kd.R_alloc | apply Kd.R_drewN | apply Kd.R_drew)); exact HO_4.out))) (below_size (by repeat (first | (with_reducible first | exact HB.out | apply below_alloc | apply pw_below_drewN | apply below_drew1 | refine below_set ?_ GE219.out) | exact HB.out))))
                          have n2_ := Aside0.mk (blk_below (g := gb219) (o := .cells #[.bool a0_0, .slice A0_1 l0_1.length c0_1, .slice (some ad251) l0_2.length c0_2] 46 (0, 0)) (by (with_reducible repeat (first | refine blk_drewN ?_ _ | refine blk_drew ?_ | refine blk_alloc ?_ _)); exact BK219.out) hb)
                          have n3_ := Aside0.mk (below_step (by repeat (first | (with_reducible first | exact HB.out | apply below_alloc | apply pw_below_drewN | apply below_drew1 | refine below_set ?_ GE219.out) | exact HB.out)) hb)
                          clear HO_4
                          clear BK219
                          clear HB
                          have HO_4 := n0_
                          have HO256 := n1_
                          have BK219 := n2_
                          have HB := n3_
                          clear n0_ n1_ n2_ n3_
                          clear hb ho55
                          obtain ⟨Ao57, co57, eo57⟩ := Kd.R_slice HO256.out
                          (first | subst eo57 | (injection eo57 with f1_ f2_ f3_; have f4_ := f1_.symm; have f5_ := f3_.symm; clear f1_ f2_ f3_; subst f4_; subst f5_))
                          refine hK.out _ _ ⟨(blk_cell BK219.out 0).trans rfl, (blk_cell BK219.out 1).trans rfl, (blk_cell BK219.out 2).trans rfl, ((HB.out.cell (World.block_lt_of_cell? w _ hw251_0)).trans hw251_0), ((HB.out.cell (World.block_lt_of_cell? w _ hw251_1)).trans hw251_1), ((HB.out.cell (World.block_lt_of_cell? w _ hw251_2)).trans hw251_2), ((HB.out.cell (World.block_lt_of_cell? w _ hw252_0)).trans hw252_0), ((HB.out.cell (World.block_lt_of_cell? w _ hw252_1)).trans hw252_1), ((HB.out.cell (World.block_lt_of_cell? w _ hw252_2)).trans hw252_2), ((HB.out.cell (World.block_lt_of_cell? w _ hw253_0)).trans hw253_0), ((HB.out.cell (World.block_lt_of_cell? w _ hw253_1)).trans hw253_1), ((HB.out.cell (World.block_lt_of_cell? w _ hw253_2)).trans hw253_2)⟩ (fun hHeld => ?_)
                          clear hK K
                          refine norm_ (a' := ?_) ?_ ?_
                          rotate_left
                          · show Act.put _ (some 83) _ = _
                            simp only [Act.put, List.setIfInBounds_toArray, List.set_cons_zero, List.set_cons_succ, i64_w, i32_w]
                            rfl
                          refine one_ (i := 22) (N := some 84) #[true, true, true, true, true, true, true, true, true, true, true, true, true, true, true, true, true, true, true, true, true, true, true, false] rfl rfl (one_of HT_.out (by kernel_rfl)) (by decide) (fun K hK => ?_)
                          refine Kd.R_append_rows_step (Kd.int .u8) (w0 := w) w.heap.size (by rfl) (.tmp 62) (.tmp 83) 30 5 (.int .u8 0) 1 rfl Try.underlying30 info5 rfl (by decide) (by omega) u4 x4_3 y254 _ _ _ (fun k_ => some k_ ≠ (.slice Ao57 y254.length co57 : Value).ownBlock) (fun _ => False) rfl rfl ?aO ?aR (fun _ _ h => h) (fun _ h => h.elim) ?aF ?aB ?aS ?aL ?_
                          (case aR => repeat (first | exact (Kd.R_reads' HO256.out).2.2 | (with_reducible refine Kd.C_alloc ?_ _) | (with_reducible refine Kd.C_drewN ?_ _) | (with_reducible refine Kd.C_drew ?_)))
                          (case aB => exact (by repeat (first | (with_reducible first | exact HB.out | apply below_alloc | apply pw_below_drewN | apply below_drew1 | refine below_set ?_ GE219.out) | exact HB.out)))
                          (case aF => exact (fun k_ hk => Kd.fresh' (Kd.R_lt (by (with_reducible repeat (first | apply Kd.R_alloc | apply Kd.R_drewN | apply Kd.R_drew)); exact HO256.out)) k_ hk))
                          (case aO => exact (by (with_reducible repeat (first | apply Kd.R_alloc | apply Kd.R_drewN | apply Kd.R_drew)); exact Kd.R_mono HO_4.out (fun _ hk => hk.2)))
                          (case aS => exact (below_size (by repeat (first | (with_reducible first | exact HB.out | apply below_alloc | apply pw_below_drewN | apply below_drew1 | refine below_set ?_ GE219.out) | exact HB.out))))
                          (case aL => have := LMc51.out; omega)
                          intro v258 w56 ho hb hg hat
                          rw [← Ny257.out] at ho
                          have n0_ := Aside0.mk (blk_grown (g := gb219) (o := .cells #[.bool a0_0, .slice A0_1 l0_1.length c0_1, .slice (some ad251) l0_2.length c0_2] 46 (0, 0)) (by (with_reducible repeat (first | refine blk_drewN ?_ _ | refine blk_drew ?_ | refine blk_alloc ?_ _)); exact BK219.out) hg (Kd.R_ne HO_4.out BK219.out (by decide)))
                          have n1_ := Aside0.mk (Kd.R_after (ok := (fun _ => True)) (by (with_reducible repeat (first | apply Kd.R_alloc | apply Kd.R_drewN | apply Kd.R_drew)); exact HO256.out) hg hat)
                          have n2_ := Aside0.mk (hb)
                          have n3_ := Aside0.mk (ho)
                          clear BK219
                          clear HO256
                          clear HB
                          clear HO_4
                          have BK219 := n0_
                          have HO256 := n1_
                          have HB := n2_
                          have HO259 := n3_
                          clear n0_ n1_ n2_ n3_
                          clear ho hb hg hat
                          refine hK.out _ _ ⟨(blk_cell BK219.out 0).trans rfl, (blk_cell BK219.out 1).trans rfl, (blk_cell BK219.out 2).trans rfl, ((HB.out.cell (World.block_lt_of_cell? w _ hw251_0)).trans hw251_0), ((HB.out.cell (World.block_lt_of_cell? w _ hw251_1)).trans hw251_1), ((HB.out.cell (World.block_lt_of_cell? w _ hw251_2)).trans hw251_2), ((HB.out.cell (World.block_lt_of_cell? w _ hw252_0)).trans hw252_0), ((HB.out.cell (World.block_lt_of_cell? w _ hw252_1)).trans hw252_1), ((HB.out.cell (World.block_lt_of_cell? w _ hw252_2)).trans hw252_2), ((HB.out.cell (World.block_lt_of_cell? w _ hw253_0)).trans hw253_0), ((HB.out.cell (World.block_lt_of_cell? w _ hw253_1)).trans hw253_1), ((HB.out.cell (World.block_lt_of_cell? w _ hw253_2)).trans hw253_2)⟩ (fun hHeld => ?_)
                          clear hK K
                          refine norm_ (a' := ?_) ?_ ?_
                          rotate_left
                          · show Act.put _ (some 84) _ = _
                            simp only [Act.put, List.setIfInBounds_toArray, List.set_cons_zero, List.set_cons_succ, i64_w, i32_w]
                            rfl
                          refine pure_ (i := 23) (N := some 4) (v := ?_) (a' := ?_) #[true, true, true, true, true, true, true, true, true, true, true, true, true, true, true, true, true, true, true, true, true, true, true, true] rfl rfl (any_of HT_.out (by kernel_rfl)) (fun _ _ _ h => h) (Or.inl ⟨by rfl, ?_⟩) ?_ ?_
                          rotate_left
                          · intro w'
                            go_simp
                            with_reducible rfl
                          rotate_left
                          · simp only [Act.put, List.setIfInBounds_toArray, List.set_cons_zero, List.set_cons_succ, i64_w, i32_w]
                            rfl
                          refine done_ (done_of HT_.out (by kernel_rfl)) ?_
                          try go_wp2
                          go_roundg k3
                          case measure => have := HJ3.out; have := HK2.out; have := HK3.out; omega
                          case rel => exact ⟨(y257), (wrap64 (x7_3 + 1)), (by first | rfl | (simp; done) | (simp [*]; done)), H', ⟨by have := HJ3.out; have := HK2.out; have := HK3.out; omega⟩, ⟨by (with_reducible repeat (first | apply Kd.R_alloc | apply Kd.R_drewN | apply Kd.R_drew)); exact Kd.R_mono HO259.out (fun _ hk => trivial)⟩, ⟨by (with_reducible repeat (first | refine blk_drewN ?_ _ | refine blk_drew ?_ | refine blk_alloc ?_ _)); exact BK219.out⟩, ⟨by repeat (first | (with_reducible first | exact HB.out | apply below_alloc | apply pw_below_drewN | apply below_drew1 | refine below_set ?_ GE219.out) | exact HB.out)⟩⟩
                        · rw [if_neg c51] at H
                          exact absurd H (by simp)
                      · rw [if_neg c50] at H
                        exact absurd H (by simp)
                    · rw [if_neg c49] at H
                      have c49b0 : decide (x7_3 < (l0_2.length : Int)) = false := decide_eq_false c49
                      clear c49
                      simp only [Option.some.injEq, Prod.mk.injEq] at H
                      obtain ⟨rfl, rfl⟩ := H
                      have hcz58_0 : wr.cell? ⟨gb219, 0, none⟩ = some (.bool a0_0) := (blk_cell BK219.out 0).trans rfl
                      have hcz58_1 : wr.cell? ⟨gb219, 1, none⟩ = some (.slice A0_1 l0_1.length c0_1) := (blk_cell BK219.out 1).trans rfl
                      have hcz58_2 : wr.cell? ⟨gb219, 2, none⟩ = some (.slice A0_2 l0_2.length c0_2) := (blk_cell BK219.out 2).trans rfl
                      have hfz58_0 := blk_frozen BK219.out 0
                      have hfz58_1 := blk_frozen BK219.out 1
                      have hfz58_2 := blk_frozen BK219.out 2
                      go_wp2
                      go_ret2
                      exact ⟨_, by first | rfl | (simp [errW_none, errW_some] <;> rfl) | (simp [*, errW_none, errW_some] <;> rfl), by (with_reducible repeat (first | apply Kd.R_alloc | apply Kd.R_drewN | apply Kd.R_drew)); exact HO_4.out, by repeat (first | (with_reducible first | exact HB.out | apply below_alloc | apply pw_below_drewN | apply below_drew1 | refine below_set ?_ GE219.out) | exact HB.out)⟩
              · rw [if_neg c43] at H
                exact absurd H (by simp)
  · replace c3 := Bool.eq_false_iff.mpr c3
    subst c3
    have H1 : (some (([] : List Int), false)) = some (r1, r2) := by rw [if_neg (show ¬ (false = true) by decide)] at H; exact H
    clear H
    have H := H1
    clear H1
    simp only [Option.some.injEq, Prod.mk.injEq] at H
    obtain ⟨rfl, rfl⟩ := H
    go_enter Try.func17, Try.ntmps17
    go_wp2_with (first | ((with_reducible refine gate_dst (N := 1) rfl ?_); refine box_event ?hg (N := 1) ?hd (cs := #[.bool a0_0, .slice A0_1 l0_1.length c0_1, .slice A0_2 l0_2.length c0_2]) (t := 46) ?hr ?_; (case hd => rfl); (case hg => rfl); (case hr => first | (go_simp; done) | (go_simp; rfl)); intro gb219 hg w59 hbox hb; have n0_ := Aside0.mk (below_step (by repeat (first | (with_reducible first | exact HB.out | apply below_alloc | apply pw_below_drewN | apply below_drew1) | exact HB.out)) hb); have n1_ := Aside0.mk (hbox); have n2_ := Aside0.mk ((by rw [hg]; exact (below_size (by repeat (first | (with_reducible first | exact HB.out | apply below_alloc | apply pw_below_drewN | apply below_drew1) | exact HB.out))) : w.heap.size ≤ gb219)); have n3_ := Aside0.mk ((by rw [hg]; exact (below_size (by repeat (first | (with_reducible first | exact HB.out | apply below_alloc | apply pw_below_drewN | apply below_drew1) | exact HB.out))) : w.heap.size ≤ gb219)); clear HB; have HB := n0_; have BK219 := n1_; have GW219 := n2_; have GE219 := n3_; clear n0_ n1_ n2_ n3_; clear hb hbox hg; have hcz60_0 : w59.cell? ⟨gb219, 0, none⟩ = some (.bool a0_0) := (blk_cell BK219.out 0).trans rfl; have hcz60_1 : w59.cell? ⟨gb219, 1, none⟩ = some (.slice A0_1 l0_1.length c0_1) := (blk_cell BK219.out 1).trans rfl; have hcz60_2 : w59.cell? ⟨gb219, 2, none⟩ = some (.slice A0_2 l0_2.length c0_2) := (blk_cell BK219.out 2).trans rfl; have hfz60_0 := blk_frozen BK219.out 0; have hfz60_1 := blk_frozen BK219.out 1; have hfz60_2 := blk_frozen BK219.out 2) | ((with_reducible refine gate_callee (f := 29) rfl ?_); refine goesL_ (some 9) rfl rfl Try.func29 (by kernel_rfl) rfl #[.agg #[.bool a0_0, .slice A0_1 l0_1.length c0_1, .slice A0_2 l0_2.length c0_2]] rfl (by (try simp only [List.map_toArray, List.map_cons, List.map_nil]); first | done | rfl | (simp only [List.length_drop, List.length_take]; rfl)) ?_; (with_reducible refine (tinctureref7_MayPolicy.calls k a0_0 _ _ l0_1 _ _ l0_2 false _ ?side1 ?side2 ?side3 ?side4 A2.out).mono ?_); (case side1 => repeat (first | exact (Kd.C_below HR0_1.out HB.out) | (with_reducible refine Kd.C_alloc ?_ _) | (with_reducible refine Kd.C_drewN ?_ _) | (with_reducible refine Kd.C_drew ?_))); (case side2 => exact HC0_1.out); (case side3 => repeat (first | exact (Kd.C_below HR0_2.out HB.out) | (with_reducible refine Kd.C_alloc ?_ _) | (with_reducible refine Kd.C_drewN ?_ _) | (with_reducible refine Kd.C_drew ?_))); (case side4 => exact HC0_2.out); rintro e w61 ⟨rfl, hb⟩; refine ⟨_, rfl, ?_⟩; have n0_ := Aside0.mk (blk_below (g := gb219) (o := .cells #[.bool a0_0, .slice A0_1 l0_1.length c0_1, .slice A0_2 l0_2.length c0_2] 46 (0, 0)) (by (with_reducible repeat (first | refine blk_drewN ?_ _ | refine blk_drew ?_ | refine blk_alloc ?_ _)); exact BK219.out) hb); have n1_ := Aside0.mk (below_step (by repeat (first | (with_reducible first | exact HB.out | apply below_alloc | apply pw_below_drewN | apply below_drew1 | refine below_set ?_ GE219.out) | exact HB.out)) hb); clear BK219; clear HB; have BK219 := n0_; have HB := n1_; clear n0_ n1_; (try clear hb); (try clear hb2); (try clear hk); (try clear hi)))
    go_ret2
    exact ⟨_, by first | rfl | (simp [errW_none, errW_some] <;> rfl) | (simp [*, errW_none, errW_some] <;> rfl), by first | exact Kd.R_nil _ _ _ _ _ | exact Kd.N_nil _ _ _ _ _ | exact Kd.V_nil _ _ _ _ _ | exact Kd.Q_nil _ _ _ _ _ | exact Kd.S_nil _ _ _ _ _, by repeat (first | (with_reducible first | exact HB.out | apply below_alloc | apply pw_below_drewN | apply below_drew1 | refine below_set ?_ GE219.out) | exact HB.out)⟩

end Go.Proofs.Ytlhoaejkjhdlgaa.PPolicyBytes
