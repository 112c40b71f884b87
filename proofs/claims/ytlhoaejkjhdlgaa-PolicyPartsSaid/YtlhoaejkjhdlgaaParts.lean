/- What PolicyParts answers: the walk against a plain function on lists (its lines began as print.sh's). -/
import Derived.Test.YtlhoaejkjhdlgaaPPolicyBytesx5
import Derived.Test.YtlhoaejkjhdlgaaAwake
namespace Go.Proofs.Ytlhoaejkjhdlgaa.PPolicyBytes
open Go.RowKit Go.Proofs.YtlhoaejkjhdlgaaW.PrintWords Go.Proofs.YtlhoaejkjhdlgaaW.PrintLast Go.Proofs.YtlhoaejkjhdlgaaW.PrintMore
attribute [local go_sem] max2_int min2_int max_two min_two max_three min_three max_four min_four   -- for this text's walks alone
set_option linter.unusedVariables false
set_option linter.unusedSimpArgs false

theorem info35 : (Try.prog.info? 35).map (fun i => (i.zero, i.size, i.bytes)) = some (some (.agg #[(.int .i64 0), (.int .u32 0), (.int .u32 0), (.int .u8 0)]), 4, 24) := by kernel_rfl
theorem info37 : (Try.prog.info? 37).map (fun i => (i.zero, i.size, i.bytes)) = some (some (.agg #[(.int .i64 0), (.int .i64 0), (.int .u8 0)]), 3, 24) := by kernel_rfl
/-- The answer of awake, whose walk is a text of its own. -/
def tincturelaw7_awake.f : Option Bool := some true
theorem tincturelaw7_awake.calls (r : Bool) (w : World) (h : tincturelaw7_awake.f = some r) : Calls Try.prog 9 #[] w fun e w' => e = .returned (.bool r) ∧ Below w.heap.size w w' := by
  injection h with h; subst h; exact Go.Proofs.Ytlhoaejkjhdlgaa.Awake.awake w

/-! ### tincturelaw7_PolicyParts: function 8 -/
mutual
def tincturelaw7_PolicyParts.j0 : Nat → Int → Int → Int → Bool → Bool → List (S35) → List (S37) → Bool → List (S35) → List (S37) → Option (Bool)
  | 0, _, _, _, _, _, _, _, _, _, _ => none
  | k + 1, x2, x3, x4, x23, x195000, x195001, x195002, x196000, x196001, x196002 => if x23 = true then (some true) else ((some (([] : List (S35)) : List (S35))).bind fun y199 => (if y199.length + x195001.length < 5864062014805 then ((some (y199 ++ x195001 : List (S35))).bind fun y202 => (if y202.length + x196001.length < 5864062014805 then ((some (y202 ++ x196001 : List (S35))).bind fun y205 => ((some (([] : List (S37)) : List (S37))).bind fun y208 => (if y208.length + x195002.length < 5864062014805 then ((some (y208 ++ x195002 : List (S37))).bind fun y211 => (if y211.length + x196002.length < 5864062014805 then ((some (y211 ++ x196002 : List (S37))).bind fun y214 => ((policy_Policy_Hits.f k x195000 x195001 x195002 x2 (wrap64 (Go.bits .and .u32 x3 7)) x4).bind fun t218 => ((policy_Policy_Hits.f k x196000 x196001 x196002 x2 (wrap64 (Go.bits .and .u32 x3 7)) x4).bind fun t221 => ((policy_Policy_Hits.f k false y205 y214 x2 (wrap64 (Go.bits .and .u32 x3 7)) x4).bind fun t224 => (tincturelaw7_PolicyParts.l0 k x2 x3 t218 t221 t224 0 x195000 x195001 x195002 x196000 x196001 x196002 false y205 y214))))) else (none))) else (none)))) else (none))) else (none)))
def tincturelaw7_PolicyParts.l0 : Nat → Int → Int → List Int → List Int → List Int → Int → Bool → List (S35) → List (S37) → Bool → List (S35) → List (S37) → Bool → List (S35) → List (S37) → Option (Bool)
  | 0, _, _, _, _, _, _, _, _, _, _, _, _, _, _, _ => none
  | k + 1, x2, x3, x12, x13, x14, x15, x195000, x195001, x195002, x196000, x196001, x196002, x218000, x218001, x218002 => if x15 < (x13.length : Int) then (if 0 ≤ x15 then (if x12.length < 17592186044416 then (tincturelaw7_PolicyParts.l0 k x2 x3 (x12 ++ [wrap64 ((rd x13 x15) + (x195002.length : Int))]) x13 x14 (wrap64 (x15 + 1)) x195000 x195001 x195002 x196000 x196001 x196002 x218000 x218001 x218002) else (none)) else (none)) else ((policy_Policy_Label.f k x218000 x218001 x218002 x2 x3).bind fun t231 => ((policy_Policy_Label.f k x195000 x195001 x195002 x2 x3).bind fun t232 => ((policy_Policy_Label.f k x196000 x196001 x196002 x2 x3).bind fun t233 => (if t231 = (Go.bits .or .u8 t232 t233) then ((tincturelaw7_places.f k x12 x14).bind fun t234 => (some t234)) else (some false)))))
end
def tincturelaw7_PolicyParts.f (k : Nat) (a0_0 : Bool) (l0_1 : List (S35)) (l0_2 : List (S37)) (a1_0 : Bool) (l1_1 : List (S35)) (l1_2 : List (S37)) (a2 : Int) (a3 : Int) (a4 : Int) : Option (Bool) := (tincturelaw7_awake.f).bind fun t196 => (if t196 = true then ((tincturelaw7_long.f a0_0 l0_1 l0_2).bind fun t197 => (if t197 = true then (tincturelaw7_PolicyParts.j0 k a2 a3 a4 true a0_0 l0_1 l0_2 a1_0 l1_1 l1_2) else ((tincturelaw7_long.f a1_0 l1_1 l1_2).bind fun t198 => (tincturelaw7_PolicyParts.j0 k a2 a3 a4 t198 a0_0 l0_1 l0_2 a1_0 l1_1 l1_2)))) else (some false))
theorem tincturelaw7_PolicyParts.mono_l : ∀ k, (∀ y0 y1 y2 y3 y4 y5 y6 y7 y8 y9, LeO (tincturelaw7_PolicyParts.j0 k y0 y1 y2 y3 y4 y5 y6 y7 y8 y9) (tincturelaw7_PolicyParts.j0 (k + 1) y0 y1 y2 y3 y4 y5 y6 y7 y8 y9)) ∧ (∀ y0 y1 y2 y3 y4 y5 y6 y7 y8 y9 y10 y11 y12 y13 y14, LeO (tincturelaw7_PolicyParts.l0 k y0 y1 y2 y3 y4 y5 y6 y7 y8 y9 y10 y11 y12 y13 y14) (tincturelaw7_PolicyParts.l0 (k + 1) y0 y1 y2 y3 y4 y5 y6 y7 y8 y9 y10 y11 y12 y13 y14))
  | 0 => ⟨fun _ _ _ _ _ _ _ _ _ _ r h => by simp [tincturelaw7_PolicyParts.j0] at h, fun _ _ _ _ _ _ _ _ _ _ _ _ _ _ _ r h => by simp [tincturelaw7_PolicyParts.l0] at h⟩
  | k + 1 => by
    obtain ⟨ih0, ih1⟩ := tincturelaw7_PolicyParts.mono_l k
    refine ⟨?_, ?_⟩
    · intro y0 y1 y2 y3 y4 y5 y6 y7 y8 y9
      unfold tincturelaw7_PolicyParts.j0
      repeat' first
      | (with_reducible exact ih0 _ _ _ _ _ _ _ _ _ _)
      | (with_reducible exact ih1 _ _ _ _ _ _ _ _ _ _ _ _ _ _ _)
      | (with_reducible exact policy_Policy_Hits.mono _ _ _ _ _ _ _)
      | (with_reducible exact policy_Policy_Label.mono _ _ _ _ _ _)
      | (with_reducible exact tincturelaw7_places.mono _ _ _)
      | (with_reducible exact LeO.refl _)
      | (with_reducible exact LeO.none _)
      | (with_reducible refine LeO.ite ?_ ?_)
      | (with_reducible refine LeO.bind ?_ (fun _ => ?_))
      | exact ih0 _ _ _ _ _ _ _ _ _ _
      | exact ih1 _ _ _ _ _ _ _ _ _ _ _ _ _ _ _
      | exact policy_Policy_Hits.mono _ _ _ _ _ _ _
      | exact policy_Policy_Label.mono _ _ _ _ _ _
      | exact tincturelaw7_places.mono _ _ _
      | exact LeO.none _
      | refine LeO.ite ?_ ?_
      | refine LeO.bind ?_ (fun _ => ?_)
    · intro y0 y1 y2 y3 y4 y5 y6 y7 y8 y9 y10 y11 y12 y13 y14
      unfold tincturelaw7_PolicyParts.l0
      repeat' first
      | (with_reducible exact ih0 _ _ _ _ _ _ _ _ _ _)
      | (with_reducible exact ih1 _ _ _ _ _ _ _ _ _ _ _ _ _ _ _)
      | (with_reducible exact policy_Policy_Hits.mono _ _ _ _ _ _ _)
      | (with_reducible exact policy_Policy_Label.mono _ _ _ _ _ _)
      | (with_reducible exact tincturelaw7_places.mono _ _ _)
      | (with_reducible exact LeO.refl _)
      | (with_reducible exact LeO.none _)
      | (with_reducible refine LeO.ite ?_ ?_)
      | (with_reducible refine LeO.bind ?_ (fun _ => ?_))
      | exact ih0 _ _ _ _ _ _ _ _ _ _
      | exact ih1 _ _ _ _ _ _ _ _ _ _ _ _ _ _ _
      | exact policy_Policy_Hits.mono _ _ _ _ _ _ _
      | exact policy_Policy_Label.mono _ _ _ _ _ _
      | exact tincturelaw7_places.mono _ _ _
      | exact LeO.none _
      | refine LeO.ite ?_ ?_
      | refine LeO.bind ?_ (fun _ => ?_)
theorem tincturelaw7_PolicyParts.mono : ∀ a0 a1 a2 a3 a4 a5 a6 a7 a8 k, LeO (tincturelaw7_PolicyParts.f k a0 a1 a2 a3 a4 a5 a6 a7 a8) (tincturelaw7_PolicyParts.f (k + 1) a0 a1 a2 a3 a4 a5 a6 a7 a8) := by
  intro a0 a1 a2 a3 a4 a5 a6 a7 a8 k
  obtain ⟨ih0, ih1⟩ := tincturelaw7_PolicyParts.mono_l k
  unfold tincturelaw7_PolicyParts.f
  repeat' first
      | (with_reducible exact ih0 _ _ _ _ _ _ _ _ _ _)
      | (with_reducible exact ih1 _ _ _ _ _ _ _ _ _ _ _ _ _ _ _)
      | (with_reducible exact policy_Policy_Hits.mono _ _ _ _ _ _ _)
      | (with_reducible exact policy_Policy_Label.mono _ _ _ _ _ _)
      | (with_reducible exact tincturelaw7_places.mono _ _ _)
      | (with_reducible exact LeO.refl _)
      | (with_reducible exact LeO.none _)
      | (with_reducible refine LeO.ite ?_ ?_)
      | (with_reducible refine LeO.bind ?_ (fun _ => ?_))
      | exact ih0 _ _ _ _ _ _ _ _ _ _
      | exact ih1 _ _ _ _ _ _ _ _ _ _ _ _ _ _ _
      | exact policy_Policy_Hits.mono _ _ _ _ _ _ _
      | exact policy_Policy_Label.mono _ _ _ _ _ _
      | exact tincturelaw7_places.mono _ _ _
      | exact LeO.none _
      | refine LeO.ite ?_ ?_
      | refine LeO.bind ?_ (fun _ => ?_)
def tincturelaw7_PolicyParts.T5 : Bool × List (List Nat × List Nat) := (true, [([], []), ([], []), ([1], [1]), ([0, 2], [0, 2]), ([], []), ([4], [4]), ([3, 5, 3], [3, 5]), ([], []), ([], []), ([8], [8]), ([7, 9, 6], [7, 9]), ([], []), ([11], [11]), ([10, 12, 10], [10, 12]), ([6, 13], [6, 13]), ([], []), ([15, 14, 13, 0, 1, 2, 3, 4, 5, 6, 7, 8, 9, 10, 11, 12, 13, 14, 15], [14, 15])])
def tincturelaw7_PolicyParts.B5 : List Nat := [0, 0, 2, 7, 0, 16, 63, 0, 0, 256, 1023, 0, 2048, 8191, 16383, 0, 65535]
theorem tincturelaw7_PolicyParts.tab5 : rtab .any (opsOf Try.f8 5) = tincturelaw7_PolicyParts.T5 := by kernel_rfl
theorem tincturelaw7_PolicyParts.bits5 : waitsOk tincturelaw7_PolicyParts.T5.2 tincturelaw7_PolicyParts.B5 = true := by kernel_rfl
def tincturelaw7_PolicyParts.T6 : Bool × List (List Nat × List Nat) := (true, [([], []), ([], []), ([], []), ([2], [2]), ([3], [3]), ([], []), ([0, 1, 4, 5], [0, 1, 4, 5]), ([], []), ([], []), ([], []), ([9], [9]), ([10], [10]), ([], []), ([7, 8, 11, 12, 6], [7, 8, 11, 12]), ([], []), ([], []), ([], []), ([16], [16]), ([17], [17]), ([], []), ([14, 15, 18, 19, 13], [14, 15, 18, 19]), ([6, 20, 0, 1, 2, 3, 4, 5, 6], [6]), ([13, 21, 0, 1, 2, 3, 4, 5, 6, 7, 8, 9, 10, 11, 12, 13, 21], [13]), ([20, 22, 0, 1, 2, 3, 4, 5, 6, 7, 8, 9, 10, 11, 12, 13, 14, 15, 16, 17, 18, 19, 20, 21, 22], [20])])
def tincturelaw7_PolicyParts.B6 : List Nat := [0, 0, 0, 4, 12, 0, 63, 0, 0, 0, 512, 1536, 0, 8191, 0, 0, 0, 65536, 196608, 0, 1048575, 2097151, 4194303, 8388607]
theorem tincturelaw7_PolicyParts.tab6 : rtab .any (opsOf Try.f8 6) = tincturelaw7_PolicyParts.T6 := by kernel_rfl
theorem tincturelaw7_PolicyParts.bits6 : waitsOk tincturelaw7_PolicyParts.T6.2 tincturelaw7_PolicyParts.B6 = true := by kernel_rfl
def tincturelaw7_PolicyParts.T10 : Bool × List (List Nat × List Nat) := (true, [([], []), ([], []), ([], []), ([1, 2], [1, 2]), ([3], [3]), ([], []), ([5], [5]), ([6], [6]), ([4, 7], [4, 7]), ([8], [8]), ([0, 9], [0, 9]), ([10, 10, 0, 1, 2, 3, 4, 5, 6, 7, 8, 9, 10], [0, 10])])
def tincturelaw7_PolicyParts.B10 : List Nat := [0, 0, 0, 6, 14, 0, 32, 96, 254, 510, 1023, 2047]
theorem tincturelaw7_PolicyParts.tab10 : rtab .any (opsOf Try.f8 10) = tincturelaw7_PolicyParts.T10 := by kernel_rfl
theorem tincturelaw7_PolicyParts.bits10 : waitsOk tincturelaw7_PolicyParts.T10.2 tincturelaw7_PolicyParts.B10 = true := by kernel_rfl
def tincturelaw7_PolicyParts.T11 : Bool × List (List Nat × List Nat) := (true, [([], []), ([], []), ([], []), ([0, 1, 2], [0, 1, 2]), ([], []), ([], []), ([], []), ([4, 5, 6, 3], [4, 5, 6]), ([], []), ([], []), ([], []), ([8, 9, 10, 7], [8, 9, 10]), ([7, 11], [7, 11]), ([3, 12], [3, 12]), ([13, 11], [13]), ([14], [14]), ([14], [14]), ([15, 16, 14, 14], [14, 15, 16]), ([14, 17], [14, 17]), ([18, 17, 0, 1, 2, 3, 4, 5, 6, 7, 8, 9, 10, 11, 12, 13, 14, 15, 16, 17, 18], [18])])
def tincturelaw7_PolicyParts.B11 : List Nat := [0, 0, 0, 7, 0, 0, 0, 127, 0, 0, 0, 2047, 4095, 8191, 16383, 32767, 32767, 131071, 262143, 524287]
theorem tincturelaw7_PolicyParts.tab11 : rtab .any (opsOf Try.f8 11) = tincturelaw7_PolicyParts.T11 := by kernel_rfl
theorem tincturelaw7_PolicyParts.bits11 : waitsOk tincturelaw7_PolicyParts.T11.2 tincturelaw7_PolicyParts.B11 = true := by kernel_rfl
set_option maxHeartbeats 8000000 in
set_option maxRecDepth 100000 in
theorem tincturelaw7_PolicyParts.calls (k : Nat) (a0_0 : Bool) (A0_1 : Option Addr) (c0_1 : Nat) (l0_1 : List (S35)) (A0_2 : Option Addr) (c0_2 : Nat) (l0_2 : List (S37)) (a1_0 : Bool) (A1_1 : Option Addr) (c1_1 : Nat) (l1_1 : List (S35)) (A1_2 : Option Addr) (c1_2 : Nat) (l1_2 : List (S37)) (a2 : Int) (a3 : Int) (a4 : Int) (r : Bool) (w : World) (hr0_1 : Kd.C k35 w A0_1 l0_1.length l0_1) (hc0_1 : l0_1.length ≤ c0_1) (hr0_2 : Kd.C k37 w A0_2 l0_2.length l0_2) (hc0_2 : l0_2.length ≤ c0_2) (hr1_1 : Kd.C k35 w A1_1 l1_1.length l1_1) (hc1_1 : l1_1.length ≤ c1_1) (hr1_2 : Kd.C k37 w A1_2 l1_2.length l1_2) (hc1_2 : l1_2.length ≤ c1_2) (h : tincturelaw7_PolicyParts.f k a0_0 l0_1 l0_2 a1_0 l1_1 l1_2 a2 a3 a4 = some r) :
    Calls Try.prog 8 #[.agg #[.bool a0_0, .slice A0_1 l0_1.length c0_1, .slice A0_2 l0_2.length c0_2], .agg #[.bool a1_0, .slice A1_1 l1_1.length c1_1, .slice A1_2 l1_2.length c1_2], .int .i64 a2, .int .u32 a3, .int .u8 a4] w fun e w' => e = .returned (.bool r) ∧ Below w.heap.size w w' := by
  have hu26 := Try.underlying26
  have HR0_1 := Aside0.mk hr0_1
  have HC0_1 := Aside0.mk hc0_1
  clear hr0_1 hc0_1
  have HR0_2 := Aside0.mk hr0_2
  have HC0_2 := Aside0.mk hc0_2
  clear hr0_2 hc0_2
  have HR1_1 := Aside0.mk hr1_1
  have HC1_1 := Aside0.mk hc1_1
  clear hr1_1 hc1_1
  have HR1_2 := Aside0.mk hr1_2
  have HC1_2 := Aside0.mk hc1_2
  clear hr1_2 hc1_2
  have HB := Aside0.mk (Below.refl w.heap.size w)
  have H : ((tincturelaw7_awake.f).bind fun t196 => (if t196 = true then ((tincturelaw7_long.f a0_0 l0_1 l0_2).bind fun t197 => (if t197 = true then (tincturelaw7_PolicyParts.j0 k a2 a3 a4 true a0_0 l0_1 l0_2 a1_0 l1_1 l1_2) else ((tincturelaw7_long.f a1_0 l1_1 l1_2).bind fun t198 => (tincturelaw7_PolicyParts.j0 k a2 a3 a4 t198 a0_0 l0_1 l0_2 a1_0 l1_1 l1_2)))) else (some false))) = some r := h
  clear h
  replace H := Option.bind_eq_some_iff.mp H
  obtain ⟨t196, A60, H⟩ := H
  replace H : (if t196 = true then ((tincturelaw7_long.f a0_0 l0_1 l0_2).bind fun t197 => (if t197 = true then (tincturelaw7_PolicyParts.j0 k a2 a3 a4 true a0_0 l0_1 l0_2 a1_0 l1_1 l1_2) else ((tincturelaw7_long.f a1_0 l1_1 l1_2).bind fun t198 => (tincturelaw7_PolicyParts.j0 k a2 a3 a4 t198 a0_0 l0_1 l0_2 a1_0 l1_1 l1_2)))) else (some false)) = some r := H
  have A6 := Aside0.mk A60
  clear A60
  by_cases c7 : t196 = true
  · subst c7
    have H1 : ((tincturelaw7_long.f a0_0 l0_1 l0_2).bind fun t197 => (if t197 = true then (tincturelaw7_PolicyParts.j0 k a2 a3 a4 true a0_0 l0_1 l0_2 a1_0 l1_1 l1_2) else ((tincturelaw7_long.f a1_0 l1_1 l1_2).bind fun t198 => (tincturelaw7_PolicyParts.j0 k a2 a3 a4 t198 a0_0 l0_1 l0_2 a1_0 l1_1 l1_2)))) = some r := by rw [if_pos rfl] at H; exact H
    clear H
    have H := H1
    clear H1
    have HC8 := Aside0.mk H
    clear H
    go_enter Try.func8, Try.ntmps8
    go_upto_region 3 with (first | ((with_reducible refine gate_dst (N := 5) rfl ?_); refine box_event ?hg (N := 5) ?hd (cs := #[.bool a0_0, .slice A0_1 l0_1.length c0_1, .slice A0_2 l0_2.length c0_2]) (t := 26) ?hr ?_; (case hd => rfl); (case hg => rfl); (case hr => first | (go_simp; done) | (go_simp; rfl)); intro gb194 hg w9 hbox hb; have n0_ := Aside0.mk (below_step (by repeat (first | (with_reducible first | exact HB.out | apply below_alloc | apply pw_below_drewN | apply below_drew1) | exact HB.out)) hb); have n1_ := Aside0.mk (hbox); have n2_ := Aside0.mk ((by rw [hg]; exact (below_size (by repeat (first | (with_reducible first | exact HB.out | apply below_alloc | apply pw_below_drewN | apply below_drew1) | exact HB.out))) : w.heap.size ≤ gb194)); have n3_ := Aside0.mk ((by rw [hg]; exact (below_size (by repeat (first | (with_reducible first | exact HB.out | apply below_alloc | apply pw_below_drewN | apply below_drew1) | exact HB.out))) : w.heap.size ≤ gb194)); clear HB; have HB := n0_; have BK194 := n1_; have GW194 := n2_; have GE194 := n3_; clear n0_ n1_ n2_ n3_; clear hb hbox hg) | ((with_reducible refine gate_dst (N := 6) rfl ?_); refine box_event ?hg (N := 6) ?hd (cs := #[.bool a1_0, .slice A1_1 l1_1.length c1_1, .slice A1_2 l1_2.length c1_2]) (t := 26) ?hr ?_; (case hd => rfl); (case hg => rfl); (case hr => first | (go_simp; done) | (go_simp; rfl)); intro gb195 hg w10 hbox hb; have n0_ := Aside0.mk (blk_below (g := gb194) (o := .cells #[.bool a0_0, .slice A0_1 l0_1.length c0_1, .slice A0_2 l0_2.length c0_2] 26 (0, 0)) (by (with_reducible repeat (first | refine blk_drewN ?_ _ | refine blk_drew ?_ | refine blk_alloc ?_ _)); exact BK194.out) hb); have n1_ := Aside0.mk (below_step (by repeat (first | (with_reducible first | exact HB.out | apply below_alloc | apply pw_below_drewN | apply below_drew1 | refine below_set ?_ GE194.out) | exact HB.out)) hb); have n2_ := Aside0.mk (hbox); have n3_ := Aside0.mk ((by rw [hg]; exact (below_size (by repeat (first | (with_reducible first | exact HB.out | apply below_alloc | apply pw_below_drewN | apply below_drew1 | refine below_set ?_ GE194.out) | exact HB.out))) : w.heap.size ≤ gb195)); have n4_ := Aside0.mk ((by rw [hg]; exact (below_size (by repeat (first | (with_reducible first | exact HB.out | apply below_alloc | apply pw_below_drewN | apply below_drew1 | refine below_set ?_ GE194.out) | exact HB.out))) : w.heap.size ≤ gb195)); have n5_ := Aside0.mk ((by rw [hg]; exact Nat.ne_of_lt (blk_lt (g := gb194) (o := .cells #[.bool a0_0, .slice A0_1 l0_1.length c0_1, .slice A0_2 l0_2.length c0_2] 26 (0, 0)) (by (with_reducible repeat (first | refine blk_drewN ?_ _ | refine blk_drew ?_ | refine blk_alloc ?_ _)); exact BK194.out)) : gb194 ≠ gb195)); have n6_ := Aside0.mk ((by rw [hg]; exact Nat.ne_of_gt (blk_lt (g := gb194) (o := .cells #[.bool a0_0, .slice A0_1 l0_1.length c0_1, .slice A0_2 l0_2.length c0_2] 26 (0, 0)) (by (with_reducible repeat (first | refine blk_drewN ?_ _ | refine blk_drew ?_ | refine blk_alloc ?_ _)); exact BK194.out)) : gb195 ≠ gb194)); clear BK194; clear HB; have BK194 := n0_; have HB := n1_; have BK195 := n2_; have GW195 := n3_; have GE195 := n4_; have NB194_195 := n5_; have NB195_194 := n6_; clear n0_ n1_ n2_ n3_ n4_ n5_ n6_; clear hb hbox hg) | ((with_reducible refine gate_callee (f := 9) rfl ?_); refine goesL_ (some 16) rfl rfl Try.func9 (by kernel_rfl) rfl #[] rfl (by (try simp only [List.map_toArray, List.map_cons, List.map_nil]); first | done | rfl | (simp only [List.length_drop, List.length_take]; rfl)) ?_; (with_reducible refine (tincturelaw7_awake.calls  true _ A6.out).mono ?_); rintro e w11 ⟨rfl, hb⟩; refine ⟨_, rfl, ?_⟩; have n0_ := Aside0.mk (blk_below (g := gb194) (o := .cells #[.bool a0_0, .slice A0_1 l0_1.length c0_1, .slice A0_2 l0_2.length c0_2] 26 (0, 0)) (by (with_reducible repeat (first | refine blk_drewN ?_ _ | refine blk_drew ?_ | refine blk_alloc ?_ _)); exact BK194.out) hb); have n1_ := Aside0.mk (blk_below (g := gb195) (o := .cells #[.bool a1_0, .slice A1_1 l1_1.length c1_1, .slice A1_2 l1_2.length c1_2] 26 (0, 0)) (by (with_reducible repeat (first | refine blk_drewN ?_ _ | refine blk_drew ?_ | refine blk_alloc ?_ _)); exact BK195.out) hb); have n2_ := Aside0.mk (below_step (by repeat (first | (with_reducible first | exact HB.out | apply below_alloc | apply pw_below_drewN | apply below_drew1 | refine below_set ?_ GE194.out | refine below_set ?_ GE195.out) | exact HB.out)) hb); clear BK194; clear BK195; clear HB; have BK194 := n0_; have BK195 := n1_; have HB := n2_; clear n0_ n1_ n2_; (try clear hb); (try clear hb2); (try clear hk); (try clear hi)))
    (try simp only [Act.put, List.setIfInBounds_toArray, List.set_cons_zero, List.set_cons_succ])
    go_cut [23] (fun v23 wc => ∃ (kq : Nat) (x23_7 : Bool), v23 = .bool x23_7 ∧ Aside0 (tincturelaw7_PolicyParts.j0 kq a2 a3 a4 x23_7 a0_0 l0_1 l0_2 a1_0 l1_1 l1_2 = some r) ∧ Aside0 (kq ≤ k) ∧ Aside0 (wc.heap[gb194]? = some (.cells #[.bool a0_0, (.slice A0_1 l0_1.length c0_1), (.slice A0_2 l0_2.length c0_2)] 26 (0, 0))) ∧ Aside0 (wc.heap[gb195]? = some (.cells #[.bool a1_0, (.slice A1_1 l1_1.length c1_1), (.slice A1_2 l1_2.length c1_2)] 26 (0, 0))) ∧ Aside0 (Below w.heap.size w wc))
    case first =>
      have H := HC8.out
      clear HC8
      replace H := Option.bind_eq_some_iff.mp H
      obtain ⟨t197, A120, H⟩ := H
      replace H : (if t197 = true then (tincturelaw7_PolicyParts.j0 k a2 a3 a4 true a0_0 l0_1 l0_2 a1_0 l1_1 l1_2) else ((tincturelaw7_long.f a1_0 l1_1 l1_2).bind fun t198 => (tincturelaw7_PolicyParts.j0 k a2 a3 a4 t198 a0_0 l0_1 l0_2 a1_0 l1_1 l1_2))) = some r := H
      have A12 := Aside0.mk A120
      clear A120
      by_cases c13 : t197 = true
      · subst c13
        have H1 : (tincturelaw7_PolicyParts.j0 k a2 a3 a4 true a0_0 l0_1 l0_2 a1_0 l1_1 l1_2) = some r := by rw [if_pos rfl] at H; exact H
        clear H
        have H := H1
        clear H1
        have H' := Aside0.mk H
        clear H
        have hnb14 := NB194_195.out
        have hnc14 := NB195_194.out
        have hcz15_0 : w11.cell? ⟨gb194, 0, none⟩ = some (.bool a0_0) := (blk_cell BK194.out 0).trans rfl
        have hcz15_1 : w11.cell? ⟨gb194, 1, none⟩ = some (.slice A0_1 l0_1.length c0_1) := (blk_cell BK194.out 1).trans rfl
        have hcz15_2 : w11.cell? ⟨gb194, 2, none⟩ = some (.slice A0_2 l0_2.length c0_2) := (blk_cell BK194.out 2).trans rfl
        have hfz15_0 := blk_frozen BK194.out 0
        have hfz15_1 := blk_frozen BK194.out 1
        have hfz15_2 := blk_frozen BK194.out 2
        go_wp2_with (first | ((with_reducible refine gate_callee (f := 15) rfl ?_); refine goesL_ (some 19) rfl rfl Try.func15 (by kernel_rfl) rfl #[.agg #[.bool a0_0, .slice A0_1 l0_1.length c0_1, .slice A0_2 l0_2.length c0_2]] rfl (by (try simp only [List.map_toArray, List.map_cons, List.map_nil]); first | done | rfl | (simp only [List.length_drop, List.length_take]; rfl)) ?_; (with_reducible refine (tincturelaw7_long.calls a0_0 _ _ l0_1 _ _ l0_2 true _ ?side1 ?side2 ?side3 ?side4 A12.out).mono ?_); (case side1 => repeat (first | exact (Kd.C_below HR0_1.out HB.out) | (with_reducible refine Kd.C_alloc ?_ _) | (with_reducible refine Kd.C_drewN ?_ _) | (with_reducible refine Kd.C_drew ?_))); (case side2 => exact HC0_1.out); (case side3 => repeat (first | exact (Kd.C_below HR0_2.out HB.out) | (with_reducible refine Kd.C_alloc ?_ _) | (with_reducible refine Kd.C_drewN ?_ _) | (with_reducible refine Kd.C_drew ?_))); (case side4 => exact HC0_2.out); rintro e w16 ⟨rfl, hb⟩; refine ⟨_, rfl, ?_⟩; have n0_ := Aside0.mk (blk_below (g := gb194) (o := .cells #[.bool a0_0, .slice A0_1 l0_1.length c0_1, .slice A0_2 l0_2.length c0_2] 26 (0, 0)) (by (with_reducible repeat (first | refine blk_drewN ?_ _ | refine blk_drew ?_ | refine blk_alloc ?_ _)); exact BK194.out) hb); have n1_ := Aside0.mk (blk_below (g := gb195) (o := .cells #[.bool a1_0, .slice A1_1 l1_1.length c1_1, .slice A1_2 l1_2.length c1_2] 26 (0, 0)) (by (with_reducible repeat (first | refine blk_drewN ?_ _ | refine blk_drew ?_ | refine blk_alloc ?_ _)); exact BK195.out) hb); have n2_ := Aside0.mk (below_step (by repeat (first | (with_reducible first | exact HB.out | apply below_alloc | apply pw_below_drewN | apply below_drew1 | refine below_set ?_ GE194.out | refine below_set ?_ GE195.out) | exact HB.out)) hb); clear BK194; clear BK195; clear HB; have BK194 := n0_; have BK195 := n1_; have HB := n2_; clear n0_ n1_ n2_; (try clear hb); (try clear hb2); (try clear hk); (try clear hi)))
        go_meet
        case rel => exact ⟨_, (true), (by first | rfl | (simp; done) | (simp [*]; done)), H', ⟨by first | omega | exact Nat.le_refl _⟩, ⟨by (with_reducible repeat (first | refine blk_drewN ?_ _ | refine blk_drew ?_ | refine blk_alloc ?_ _)); exact BK194.out⟩, ⟨by (with_reducible repeat (first | refine blk_drewN ?_ _ | refine blk_drew ?_ | refine blk_alloc ?_ _)); exact BK195.out⟩, ⟨by repeat (first | (with_reducible first | exact HB.out | apply below_alloc | apply pw_below_drewN | apply below_drew1 | refine below_set ?_ GE194.out | refine below_set ?_ GE195.out) | exact HB.out)⟩⟩
      · replace c13 := Bool.eq_false_iff.mpr c13
        subst c13
        have H1 : ((tincturelaw7_long.f a1_0 l1_1 l1_2).bind fun t198 => (tincturelaw7_PolicyParts.j0 k a2 a3 a4 t198 a0_0 l0_1 l0_2 a1_0 l1_1 l1_2)) = some r := by rw [if_neg (show ¬ (false = true) by decide)] at H; exact H
        clear H
        have H := H1
        clear H1
        replace H := Option.bind_eq_some_iff.mp H
        obtain ⟨t198, A170, H⟩ := H
        replace H : (tincturelaw7_PolicyParts.j0 k a2 a3 a4 t198 a0_0 l0_1 l0_2 a1_0 l1_1 l1_2) = some r := H
        have A17 := Aside0.mk A170
        clear A170
        have H' := Aside0.mk H
        clear H
        have hnb18 := NB194_195.out
        have hnc18 := NB195_194.out
        have hcz19_0 : w11.cell? ⟨gb194, 0, none⟩ = some (.bool a0_0) := (blk_cell BK194.out 0).trans rfl
        have hcz19_1 : w11.cell? ⟨gb194, 1, none⟩ = some (.slice A0_1 l0_1.length c0_1) := (blk_cell BK194.out 1).trans rfl
        have hcz19_2 : w11.cell? ⟨gb194, 2, none⟩ = some (.slice A0_2 l0_2.length c0_2) := (blk_cell BK194.out 2).trans rfl
        have hfz19_0 := blk_frozen BK194.out 0
        have hfz19_1 := blk_frozen BK194.out 1
        have hfz19_2 := blk_frozen BK194.out 2
        go_wp2_with (first | ((with_reducible refine gate_callee (f := 15) rfl ?_); refine goesL_ (some 19) rfl rfl Try.func15 (by kernel_rfl) rfl #[.agg #[.bool a0_0, .slice A0_1 l0_1.length c0_1, .slice A0_2 l0_2.length c0_2]] rfl (by (try simp only [List.map_toArray, List.map_cons, List.map_nil]); first | done | rfl | (simp only [List.length_drop, List.length_take]; rfl)) ?_; (with_reducible refine (tincturelaw7_long.calls a0_0 _ _ l0_1 _ _ l0_2 false _ ?side1 ?side2 ?side3 ?side4 A12.out).mono ?_); (case side1 => repeat (first | exact (Kd.C_below HR0_1.out HB.out) | (with_reducible refine Kd.C_alloc ?_ _) | (with_reducible refine Kd.C_drewN ?_ _) | (with_reducible refine Kd.C_drew ?_))); (case side2 => exact HC0_1.out); (case side3 => repeat (first | exact (Kd.C_below HR0_2.out HB.out) | (with_reducible refine Kd.C_alloc ?_ _) | (with_reducible refine Kd.C_drewN ?_ _) | (with_reducible refine Kd.C_drew ?_))); (case side4 => exact HC0_2.out); rintro e w20 ⟨rfl, hb⟩; refine ⟨_, rfl, ?_⟩; have n0_ := Aside0.mk (blk_below (g := gb194) (o := .cells #[.bool a0_0, .slice A0_1 l0_1.length c0_1, .slice A0_2 l0_2.length c0_2] 26 (0, 0)) (by (with_reducible repeat (first | refine blk_drewN ?_ _ | refine blk_drew ?_ | refine blk_alloc ?_ _)); exact BK194.out) hb); have n1_ := Aside0.mk (blk_below (g := gb195) (o := .cells #[.bool a1_0, .slice A1_1 l1_1.length c1_1, .slice A1_2 l1_2.length c1_2] 26 (0, 0)) (by (with_reducible repeat (first | refine blk_drewN ?_ _ | refine blk_drew ?_ | refine blk_alloc ?_ _)); exact BK195.out) hb); have n2_ := Aside0.mk (below_step (by repeat (first | (with_reducible first | exact HB.out | apply below_alloc | apply pw_below_drewN | apply below_drew1 | refine below_set ?_ GE194.out | refine below_set ?_ GE195.out) | exact HB.out)) hb); clear BK194; clear BK195; clear HB; have BK194 := n0_; have BK195 := n1_; have HB := n2_; clear n0_ n1_ n2_; (try clear hb); (try clear hb2); (try clear hk); (try clear hi); have hcz21_0 : w20.cell? ⟨gb195, 0, none⟩ = some (.bool a1_0) := (blk_cell BK195.out 0).trans rfl; have hcz21_1 : w20.cell? ⟨gb195, 1, none⟩ = some (.slice A1_1 l1_1.length c1_1) := (blk_cell BK195.out 1).trans rfl; have hcz21_2 : w20.cell? ⟨gb195, 2, none⟩ = some (.slice A1_2 l1_2.length c1_2) := (blk_cell BK195.out 2).trans rfl; have hfz21_0 := blk_frozen BK195.out 0; have hfz21_1 := blk_frozen BK195.out 1; have hfz21_2 := blk_frozen BK195.out 2) | (go_at_call 15; (with_reducible refine (tincturelaw7_long.calls a1_0 _ _ l1_1 _ _ l1_2 t198 _ ?side1 ?side2 ?side3 ?side4 A17.out).mono ?_); (case side1 => repeat (first | exact (Kd.C_below HR1_1.out HB.out) | (with_reducible refine Kd.C_alloc ?_ _) | (with_reducible refine Kd.C_drewN ?_ _) | (with_reducible refine Kd.C_drew ?_))); (case side2 => exact HC1_1.out); (case side3 => repeat (first | exact (Kd.C_below HR1_2.out HB.out) | (with_reducible refine Kd.C_alloc ?_ _) | (with_reducible refine Kd.C_drewN ?_ _) | (with_reducible refine Kd.C_drew ?_))); (case side4 => exact HC1_2.out); rintro e w22 ⟨rfl, hb⟩; have n0_ := Aside0.mk (blk_below (g := gb194) (o := .cells #[.bool a0_0, .slice A0_1 l0_1.length c0_1, .slice A0_2 l0_2.length c0_2] 26 (0, 0)) (by (with_reducible repeat (first | refine blk_drewN ?_ _ | refine blk_drew ?_ | refine blk_alloc ?_ _)); exact BK194.out) hb); have n1_ := Aside0.mk (blk_below (g := gb195) (o := .cells #[.bool a1_0, .slice A1_1 l1_1.length c1_1, .slice A1_2 l1_2.length c1_2] 26 (0, 0)) (by (with_reducible repeat (first | refine blk_drewN ?_ _ | refine blk_drew ?_ | refine blk_alloc ?_ _)); exact BK195.out) hb); have n2_ := Aside0.mk (below_step (by repeat (first | (with_reducible first | exact HB.out | apply below_alloc | apply pw_below_drewN | apply below_drew1 | refine below_set ?_ GE194.out | refine below_set ?_ GE195.out) | exact HB.out)) hb); clear BK194; clear BK195; clear HB; have BK194 := n0_; have BK195 := n1_; have HB := n2_; clear n0_ n1_ n2_; (try clear hb); (try clear hb2); (try clear hk); (try clear hi)))
        go_meet
        case rel => exact ⟨_, (t198), (by first | rfl | (simp; done) | (simp [*]; done)), H', ⟨by first | omega | exact Nat.le_refl _⟩, ⟨by (with_reducible repeat (first | refine blk_drewN ?_ _ | refine blk_drew ?_ | refine blk_alloc ?_ _)); exact BK194.out⟩, ⟨by (with_reducible repeat (first | refine blk_drewN ?_ _ | refine blk_drew ?_ | refine blk_alloc ?_ _)); exact BK195.out⟩, ⟨by repeat (first | (with_reducible first | exact HB.out | apply below_alloc | apply pw_below_drewN | apply below_drew1 | refine below_set ?_ GE194.out | refine below_set ?_ GE195.out) | exact HB.out)⟩⟩
    case rest =>
      clear HC8
      try clear c1
      try clear p2
      try clear c7
      try clear c8
      try clear c9
      try clear c13
      try clear c14
      try clear c15
      try clear c18
      try clear hcz15_0
      try clear hcz15_1
      try clear hcz15_2
      try clear hcz19_0
      try clear hcz19_1
      try clear hcz19_2
      try clear hcz21_0
      try clear hcz21_1
      try clear hcz21_2
      try clear hfz15_0
      try clear hfz15_1
      try clear hfz15_2
      try clear hfz19_0
      try clear hfz19_1
      try clear hfz19_2
      try clear hfz21_0
      try clear hfz21_1
      try clear hfz21_2
      obtain ⟨kq, x23_7, rfl, HA, HJ7, BK194, BK195, HB⟩ := hcut
      cases kq with
      | zero => exact absurd HA.out (by simp [tincturelaw7_PolicyParts.j0])
      | succ kj7 =>
        have H := HA.out
        clear HA
        simp only [tincturelaw7_PolicyParts.j0] at H
        by_cases c23 : x23_7 = true
        · subst c23
          have H1 : (some true) = some r := by rw [if_pos rfl] at H; exact H
          clear H
          have H := H1
          clear H1
          obtain rfl := Option.some.inj H
          go_wp2
          go_ret
          exact ⟨by first | rfl | (simp [errW_none, errW_some] <;> rfl) | (simp [*, errW_none, errW_some] <;> rfl), by repeat (first | (with_reducible first | exact HB.out | apply below_alloc | apply pw_below_drewN | apply below_drew1 | refine below_set ?_ GE194.out | refine below_set ?_ GE195.out) | exact HB.out)⟩
        · replace c23 := Bool.eq_false_iff.mpr c23
          subst c23
          have H1 : ((some (([] : List (S35)) : List (S35))).bind fun y199 => (if y199.length + l0_1.length < 5864062014805 then ((some (y199 ++ l0_1 : List (S35))).bind fun y202 => (if y202.length + l1_1.length < 5864062014805 then ((some (y202 ++ l1_1 : List (S35))).bind fun y205 => ((some (([] : List (S37)) : List (S37))).bind fun y208 => (if y208.length + l0_2.length < 5864062014805 then ((some (y208 ++ l0_2 : List (S37))).bind fun y211 => (if y211.length + l1_2.length < 5864062014805 then ((some (y211 ++ l1_2 : List (S37))).bind fun y214 => ((policy_Policy_Hits.f kj7 a0_0 l0_1 l0_2 a2 (wrap64 (Go.bits .and .u32 a3 7)) a4).bind fun t218 => ((policy_Policy_Hits.f kj7 a1_0 l1_1 l1_2 a2 (wrap64 (Go.bits .and .u32 a3 7)) a4).bind fun t221 => ((policy_Policy_Hits.f kj7 false y205 y214 a2 (wrap64 (Go.bits .and .u32 a3 7)) a4).bind fun t224 => (tincturelaw7_PolicyParts.l0 kj7 a2 a3 t218 t221 t224 0 a0_0 l0_1 l0_2 a1_0 l1_1 l1_2 false y205 y214))))) else (none))) else (none)))) else (none))) else (none))) = some r := by rw [if_neg (show ¬ (false = true) by decide)] at H; exact H
          clear H
          have H := H1
          clear H1
          obtain ⟨y199, hy199⟩ : ∃ y_ : List (S35), y_ = (([] : List (S35))) := ⟨_, rfl⟩
          replace H : (if y199.length + l0_1.length < 5864062014805 then ((some (y199 ++ l0_1 : List (S35))).bind fun y202 => (if y202.length + l1_1.length < 5864062014805 then ((some (y202 ++ l1_1 : List (S35))).bind fun y205 => ((some (([] : List (S37)) : List (S37))).bind fun y208 => (if y208.length + l0_2.length < 5864062014805 then ((some (y208 ++ l0_2 : List (S37))).bind fun y211 => (if y211.length + l1_2.length < 5864062014805 then ((some (y211 ++ l1_2 : List (S37))).bind fun y214 => ((policy_Policy_Hits.f kj7 a0_0 l0_1 l0_2 a2 (wrap64 (Go.bits .and .u32 a3 7)) a4).bind fun t218 => ((policy_Policy_Hits.f kj7 a1_0 l1_1 l1_2 a2 (wrap64 (Go.bits .and .u32 a3 7)) a4).bind fun t221 => ((policy_Policy_Hits.f kj7 false y205 y214 a2 (wrap64 (Go.bits .and .u32 a3 7)) a4).bind fun t224 => (tincturelaw7_PolicyParts.l0 kj7 a2 a3 t218 t221 t224 0 a0_0 l0_1 l0_2 a1_0 l1_1 l1_2 false y205 y214))))) else (none))) else (none)))) else (none))) else (none)) = some r := by first | (rw [hy199]; with_reducible exact H) | (have H2_ := (Option.bind_some _ _).symm.trans H; rw [hy199]; with_reducible exact H2_) | (have H2_ := (Option.bind_some _ _).symm.trans H; with_reducible exact H2_) | with_reducible exact H | (rw [hy199]; exact H) | exact H
          have Ny199 := Aside0.mk hy199
          clear hy199
          by_cases c24 : y199.length + l0_1.length < 5864062014805
          · rw [if_pos c24] at H
            have LMc24 := Aside0.mk c24
            clear c24
            obtain ⟨y202, hy202⟩ : ∃ y_ : List (S35), y_ = (y199 ++ l0_1) := ⟨_, rfl⟩
            replace H : (if y202.length + l1_1.length < 5864062014805 then ((some (y202 ++ l1_1 : List (S35))).bind fun y205 => ((some (([] : List (S37)) : List (S37))).bind fun y208 => (if y208.length + l0_2.length < 5864062014805 then ((some (y208 ++ l0_2 : List (S37))).bind fun y211 => (if y211.length + l1_2.length < 5864062014805 then ((some (y211 ++ l1_2 : List (S37))).bind fun y214 => ((policy_Policy_Hits.f kj7 a0_0 l0_1 l0_2 a2 (wrap64 (Go.bits .and .u32 a3 7)) a4).bind fun t218 => ((policy_Policy_Hits.f kj7 a1_0 l1_1 l1_2 a2 (wrap64 (Go.bits .and .u32 a3 7)) a4).bind fun t221 => ((policy_Policy_Hits.f kj7 false y205 y214 a2 (wrap64 (Go.bits .and .u32 a3 7)) a4).bind fun t224 => (tincturelaw7_PolicyParts.l0 kj7 a2 a3 t218 t221 t224 0 a0_0 l0_1 l0_2 a1_0 l1_1 l1_2 false y205 y214))))) else (none))) else (none)))) else (none)) = some r := by first | (rw [hy202]; with_reducible exact H) | (have H2_ := (Option.bind_some _ _).symm.trans H; rw [hy202]; with_reducible exact H2_) | (have H2_ := (Option.bind_some _ _).symm.trans H; with_reducible exact H2_) | with_reducible exact H | (rw [hy202]; exact H) | exact H
            have Ny202 := Aside0.mk hy202
            clear hy202
            by_cases c25 : y202.length + l1_1.length < 5864062014805
            · rw [if_pos c25] at H
              have LMc25 := Aside0.mk c25
              clear c25
              obtain ⟨y205, hy205⟩ : ∃ y_ : List (S35), y_ = (y202 ++ l1_1) := ⟨_, rfl⟩
              replace H : ((some (([] : List (S37)) : List (S37))).bind fun y208 => (if y208.length + l0_2.length < 5864062014805 then ((some (y208 ++ l0_2 : List (S37))).bind fun y211 => (if y211.length + l1_2.length < 5864062014805 then ((some (y211 ++ l1_2 : List (S37))).bind fun y214 => ((policy_Policy_Hits.f kj7 a0_0 l0_1 l0_2 a2 (wrap64 (Go.bits .and .u32 a3 7)) a4).bind fun t218 => ((policy_Policy_Hits.f kj7 a1_0 l1_1 l1_2 a2 (wrap64 (Go.bits .and .u32 a3 7)) a4).bind fun t221 => ((policy_Policy_Hits.f kj7 false y205 y214 a2 (wrap64 (Go.bits .and .u32 a3 7)) a4).bind fun t224 => (tincturelaw7_PolicyParts.l0 kj7 a2 a3 t218 t221 t224 0 a0_0 l0_1 l0_2 a1_0 l1_1 l1_2 false y205 y214))))) else (none))) else (none))) = some r := by first | (rw [hy205]; with_reducible exact H) | (have H2_ := (Option.bind_some _ _).symm.trans H; rw [hy205]; with_reducible exact H2_) | (have H2_ := (Option.bind_some _ _).symm.trans H; with_reducible exact H2_) | with_reducible exact H | (rw [hy205]; exact H) | exact H
              have Ny205 := Aside0.mk hy205
              clear hy205
              obtain ⟨y208, hy208⟩ : ∃ y_ : List (S37), y_ = (([] : List (S37))) := ⟨_, rfl⟩
              replace H : (if y208.length + l0_2.length < 5864062014805 then ((some (y208 ++ l0_2 : List (S37))).bind fun y211 => (if y211.length + l1_2.length < 5864062014805 then ((some (y211 ++ l1_2 : List (S37))).bind fun y214 => ((policy_Policy_Hits.f kj7 a0_0 l0_1 l0_2 a2 (wrap64 (Go.bits .and .u32 a3 7)) a4).bind fun t218 => ((policy_Policy_Hits.f kj7 a1_0 l1_1 l1_2 a2 (wrap64 (Go.bits .and .u32 a3 7)) a4).bind fun t221 => ((policy_Policy_Hits.f kj7 false y205 y214 a2 (wrap64 (Go.bits .and .u32 a3 7)) a4).bind fun t224 => (tincturelaw7_PolicyParts.l0 kj7 a2 a3 t218 t221 t224 0 a0_0 l0_1 l0_2 a1_0 l1_1 l1_2 false y205 y214))))) else (none))) else (none)) = some r := by first | (rw [hy208]; with_reducible exact H) | (have H2_ := (Option.bind_some _ _).symm.trans H; rw [hy208]; with_reducible exact H2_) | (have H2_ := (Option.bind_some _ _).symm.trans H; with_reducible exact H2_) | with_reducible exact H | (rw [hy208]; exact H) | exact H
              have Ny208 := Aside0.mk hy208
              clear hy208
              by_cases c26 : y208.length + l0_2.length < 5864062014805
              · rw [if_pos c26] at H
                have LMc26 := Aside0.mk c26
                clear c26
                obtain ⟨y211, hy211⟩ : ∃ y_ : List (S37), y_ = (y208 ++ l0_2) := ⟨_, rfl⟩
                replace H : (if y211.length + l1_2.length < 5864062014805 then ((some (y211 ++ l1_2 : List (S37))).bind fun y214 => ((policy_Policy_Hits.f kj7 a0_0 l0_1 l0_2 a2 (wrap64 (Go.bits .and .u32 a3 7)) a4).bind fun t218 => ((policy_Policy_Hits.f kj7 a1_0 l1_1 l1_2 a2 (wrap64 (Go.bits .and .u32 a3 7)) a4).bind fun t221 => ((policy_Policy_Hits.f kj7 false y205 y214 a2 (wrap64 (Go.bits .and .u32 a3 7)) a4).bind fun t224 => (tincturelaw7_PolicyParts.l0 kj7 a2 a3 t218 t221 t224 0 a0_0 l0_1 l0_2 a1_0 l1_1 l1_2 false y205 y214))))) else (none)) = some r := by first | (rw [hy211]; with_reducible exact H) | (have H2_ := (Option.bind_some _ _).symm.trans H; rw [hy211]; with_reducible exact H2_) | (have H2_ := (Option.bind_some _ _).symm.trans H; with_reducible exact H2_) | with_reducible exact H | (rw [hy211]; exact H) | exact H
                have Ny211 := Aside0.mk hy211
                clear hy211
                by_cases c27 : y211.length + l1_2.length < 5864062014805
                · rw [if_pos c27] at H
                  have LMc27 := Aside0.mk c27
                  clear c27
                  obtain ⟨y214, hy214⟩ : ∃ y_ : List (S37), y_ = (y211 ++ l1_2) := ⟨_, rfl⟩
                  replace H : ((policy_Policy_Hits.f kj7 a0_0 l0_1 l0_2 a2 (wrap64 (Go.bits .and .u32 a3 7)) a4).bind fun t218 => ((policy_Policy_Hits.f kj7 a1_0 l1_1 l1_2 a2 (wrap64 (Go.bits .and .u32 a3 7)) a4).bind fun t221 => ((policy_Policy_Hits.f kj7 false y205 y214 a2 (wrap64 (Go.bits .and .u32 a3 7)) a4).bind fun t224 => (tincturelaw7_PolicyParts.l0 kj7 a2 a3 t218 t221 t224 0 a0_0 l0_1 l0_2 a1_0 l1_1 l1_2 false y205 y214)))) = some r := by first | (rw [hy214]; with_reducible exact H) | (have H2_ := (Option.bind_some _ _).symm.trans H; rw [hy214]; with_reducible exact H2_) | (have H2_ := (Option.bind_some _ _).symm.trans H; with_reducible exact H2_) | with_reducible exact H | (rw [hy214]; exact H) | exact H
                  have Ny214 := Aside0.mk hy214
                  clear hy214
                  replace H := Option.bind_eq_some_iff.mp H
                  obtain ⟨t218, A280, H⟩ := H
                  replace H : ((policy_Policy_Hits.f kj7 a1_0 l1_1 l1_2 a2 (wrap64 (Go.bits .and .u32 a3 7)) a4).bind fun t221 => ((policy_Policy_Hits.f kj7 false y205 y214 a2 (wrap64 (Go.bits .and .u32 a3 7)) a4).bind fun t224 => (tincturelaw7_PolicyParts.l0 kj7 a2 a3 t218 t221 t224 0 a0_0 l0_1 l0_2 a1_0 l1_1 l1_2 false y205 y214))) = some r := H
                  have A28 := Aside0.mk A280
                  clear A280
                  replace H := Option.bind_eq_some_iff.mp H
                  obtain ⟨t221, A290, H⟩ := H
                  replace H : ((policy_Policy_Hits.f kj7 false y205 y214 a2 (wrap64 (Go.bits .and .u32 a3 7)) a4).bind fun t224 => (tincturelaw7_PolicyParts.l0 kj7 a2 a3 t218 t221 t224 0 a0_0 l0_1 l0_2 a1_0 l1_1 l1_2 false y205 y214)) = some r := H
                  have A29 := Aside0.mk A290
                  clear A290
                  replace H := Option.bind_eq_some_iff.mp H
                  obtain ⟨t224, A300, H⟩ := H
                  replace H : (tincturelaw7_PolicyParts.l0 kj7 a2 a3 t218 t221 t224 0 a0_0 l0_1 l0_2 a1_0 l1_1 l1_2 false y205 y214) = some r := H
                  have A30 := Aside0.mk A300
                  clear A300
                  have H' := Aside0.mk H
                  clear H
                  try go_wp2
                  have n0_ := Aside0.mk (blk_drew BK194.out)
                  have n1_ := Aside0.mk (blk_drew BK195.out)
                  have n2_ := Aside0.mk (below_drew1 HB.out)
                  clear BK194
                  clear BK195
                  clear HB
                  have BK194 := n0_
                  have BK195 := n1_
                  have HB := n2_
                  clear n0_ n1_ n2_
                  refine start_ (n := 17) (S := fun w' => True) (ds := []) #[false, false, false, false, false, false, false, false, false, false, false, false, false, false, false, false, false] (by kernel_rfl) rfl rfl trivial (fun hHeld => ?_); refine with_tabW tincturelaw7_PolicyParts.tab5 tincturelaw7_PolicyParts.bits5 (fun HT_ HW_ => ?_)
                  generalize wc.drew = w31 at BK194 BK195 HB hHeld ⊢
                  refine pure_ (i := 1) (N := some 25) (v := ?_) (a' := ?_) #[false, true, false, false, false, false, false, false, false, false, false, false, false, false, false, false, false] rfl rfl (any_of HT_.out (by kernel_rfl)) (fun _ _ _ h => h) (Or.inl ⟨by rfl, ?_⟩) ?_ ?_
                  rotate_left
                  · intro w'
                    go_simp
                    with_reducible rfl
                  rotate_left
                  · simp only [Act.put, List.setIfInBounds_toArray, List.set_cons_zero, List.set_cons_succ, i64_w, i32_w]
                    rfl
                  refine pure_ (i := 4) (N := some 28) (v := ?_) (a' := ?_) #[false, true, false, false, true, false, false, false, false, false, false, false, false, false, false, false, false] rfl rfl (any_of HT_.out (by kernel_rfl)) (fun _ _ _ h => h) (Or.inl ⟨by rfl, ?_⟩) ?_ ?_
                  rotate_left
                  · intro w'
                    go_simp
                    with_reducible rfl
                  rotate_left
                  · simp only [Act.put, List.setIfInBounds_toArray, List.set_cons_zero, List.set_cons_succ, i64_w, i32_w]
                    rfl
                  refine pure_ (i := 8) (N := some 32) (v := ?_) (a' := ?_) #[false, true, false, false, true, false, false, false, true, false, false, false, false, false, false, false, false] rfl rfl (any_of HT_.out (by kernel_rfl)) (fun _ _ _ h => h) (Or.inl ⟨by rfl, ?_⟩) ?_ ?_
                  rotate_left
                  · intro w'
                    go_simp
                    with_reducible rfl
                  rotate_left
                  · simp only [Act.put, List.setIfInBounds_toArray, List.set_cons_zero, List.set_cons_succ, i64_w, i32_w]
                    rfl
                  refine pure_ (i := 11) (N := some 35) (v := ?_) (a' := ?_) #[false, true, false, false, true, false, false, false, true, false, false, true, false, false, false, false, false] rfl rfl (any_of HT_.out (by kernel_rfl)) (fun _ _ _ h => h) (Or.inl ⟨by rfl, ?_⟩) ?_ ?_
                  rotate_left
                  · intro w'
                    go_simp
                    with_reducible rfl
                  rotate_left
                  · simp only [Act.put, List.setIfInBounds_toArray, List.set_cons_zero, List.set_cons_succ, i64_w, i32_w]
                    rfl
                  refine inv_at [0, 2, 3, 5, 6, 7, 9, 10, 12, 13, 14, 15, 16] (fun a0_ b a w' => ∃ (v200 : Value) (v203 : Value) (v206 : Value) (v209 : Value) (v212 : Value) (v215 : Value) (gb217 : Nat) (m14_ : Value) (m15_ : Value), a = putSel a0_ b [(0, 24, v200), (2, 26, .slice A0_1 l0_1.length c0_1), (3, 27, v203), (5, 29, .slice A1_1 l1_1.length c1_1), (6, 30, v206), (7, 31, v209), (9, 33, .slice A0_2 l0_2.length c0_2), (10, 34, v212), (12, 36, .slice A1_2 l1_2.length c1_2), (13, 37, v215), (14, 38, m14_), (15, 11, m15_)] ∧ (w'.heap[gb194]? = some (.cells #[.bool a0_0, .slice A0_1 l0_1.length c0_1, .slice A0_2 l0_2.length c0_2] 26 (0, 0))) ∧ (w'.heap[gb195]? = some (.cells #[.bool a1_0, .slice A1_1 l1_1.length c1_1, .slice A1_2 l1_2.length c1_2] 26 (0, 0))) ∧ (Below w.heap.size w w') ∧ (b 0 = true → b 3 = false → Kd.R k35 35 w' w.heap.size (fun _ => True) v200 y199) ∧ (b 3 = true → b 6 = false → Kd.R k35 35 w' w.heap.size (fun _ => True) v203 y202) ∧ (b 6 = true → Kd.R k35 35 w' w.heap.size (fun _ => True) v206 y205) ∧ (b 7 = true → b 10 = false → Kd.R k37 37 w' w.heap.size (fun _ => True) v209 y208) ∧ (b 10 = true → b 13 = false → Kd.R k37 37 w' w.heap.size (fun _ => True) v212 y211) ∧ (b 13 = true → Kd.R k37 37 w' w.heap.size (fun _ => True) v215 y214) ∧ (b 15 = true → b 16 = false → w'.heap[gb217]? = some (.cells #[.bool false, .slice none 0 0, .slice none 0 0] 26 (0, 0))) ∧ (b 15 = true → w.heap.size ≤ gb217) ∧ (b 15 = true → w.heap.size ≤ gb217) ∧ (b 15 = true → gb194 ≠ gb217) ∧ (b 15 = true → gb217 ≠ gb194) ∧ (b 15 = true → gb195 ≠ gb217) ∧ (b 15 = true → gb217 ≠ gb195) ∧ (b 16 = true → w'.heap[gb217]? = some (.cells #[.bool false, v206, v215] 26 (0, 0))) ∧ (b 14 = true → (m14_ : Value) = .agg #[.bool false, v206, v215]) ∧ (b 15 = true → (m15_ : Value) = .pointer (some ⟨gb217, 0, none⟩))) HT_.out HW_.out (by kernel_rfl) (by kernel_rfl) ?_ ?_ ?_
                  · exact ⟨.bool false, .bool false, .bool false, .bool false, .bool false, .bool false, 0, .bool false, .bool false, by simp only [putSel, Bool.false_eq_true, if_false], BK194.out, BK195.out, HB.out, fun h_ => absurd h_ (by decide), fun h_ => absurd h_ (by decide), fun h_ => absurd h_ (by decide), fun h_ => absurd h_ (by decide), fun h_ => absurd h_ (by decide), fun h_ => absurd h_ (by decide), fun h_ => absurd h_ (by decide), fun h_ => absurd h_ (by decide), fun h_ => absurd h_ (by decide), fun h_ => absurd h_ (by decide), fun h_ => absurd h_ (by decide), fun h_ => absurd h_ (by decide), fun h_ => absurd h_ (by decide), fun h_ => absurd h_ (by decide), fun h_ => absurd h_ (by decide), fun h_ => absurd h_ (by decide)⟩
                  · skip
                    clear BK194 BK195 HB
                    refine steps_cons ?_ ?_
                    · rintro b a w' ⟨v200, v203, v206, v209, v212, v215, gb217, m14_, m15_, ha, Q_BK194, Q_BK195, Q_HB, Q_HO201, Q_HO204, Q_HO207, Q_HO210, Q_HO213, Q_HO216, Q_BK217, Q_GW217, Q_GE217, Q_NB194_217, Q_NB217_194, Q_NB195_217, Q_NB217_195, Q_BK217_e16, Q_X14_, Q_X15_⟩ hb_ hon hoff
                      refine ⟨_, rfl, fun K hK => ?_⟩
                      replace ha := Aside0.mk ha
                      have BK194 := Aside0.mk Q_BK194
                      have BK195 := Aside0.mk Q_BK195
                      have HB := Aside0.mk Q_HB
                      refine Kd.R_lit_step k35 _ 35 ?hg (N := 24) ?hd (xs := ([] : List (S35))) (inner := []) (ok := fun _ => True) (okp := fun _ => True) ?hr ?hp (fun _ hk => hk) trivial (Below.refl _ _) (Nat.le_refl _) (by simp) ?_; (case hd => rfl); (case hg => rfl); (case hr => first | (go_simp; done) | (go_simp; rfl)); (case hp => exact (Reps.none _ _))
                      intro v200 w32 ho33 hb hg_ hnew_
                      clear hg_ hnew_
                      (first | rw [← Ny199.out] at ho33 | (simp only [Int.reduceToNat] at ho33; rw [← Ny199.out] at ho33))
                      have n0_ := Aside0.mk (Kd.R_lower ho33 (below_size (by repeat (first | (with_reducible first | exact HB.out | apply below_alloc | apply pw_below_drewN | apply below_drew1 | refine below_set ?_ GE194.out | refine below_set ?_ GE195.out) | exact HB.out))))
                      have n1_ := Aside0.mk (blk_below (g := gb194) (o := .cells #[.bool a0_0, .slice A0_1 l0_1.length c0_1, .slice A0_2 l0_2.length c0_2] 26 (0, 0)) (by (with_reducible repeat (first | refine blk_drewN ?_ _ | refine blk_drew ?_ | refine blk_alloc ?_ _)); exact BK194.out) hb)
                      have n2_ := Aside0.mk (blk_below (g := gb195) (o := .cells #[.bool a1_0, .slice A1_1 l1_1.length c1_1, .slice A1_2 l1_2.length c1_2] 26 (0, 0)) (by (with_reducible repeat (first | refine blk_drewN ?_ _ | refine blk_drew ?_ | refine blk_alloc ?_ _)); exact BK195.out) hb)
                      have n3_ := Aside0.mk (below_step (by repeat (first | (with_reducible first | exact HB.out | apply below_alloc | apply pw_below_drewN | apply below_drew1 | refine below_set ?_ GE194.out | refine below_set ?_ GE195.out) | exact HB.out)) hb)
                      have z_HO210 := fun (h0_ : b 7 = true) (h1_ : b 10 = false) => (show Kd.R k37 37 w32 w.heap.size (fun _ => True) v209 y208 from by first | exact (Kd.R_below (by (with_reducible repeat (first | apply Kd.R_alloc | apply Kd.R_drewN | apply Kd.R_drew)); exact (Q_HO210 h0_ h1_)) hb) | exact Kd.R_mono (Kd.R_below (by (with_reducible repeat (first | apply Kd.R_alloc | apply Kd.R_drewN | apply Kd.R_drew)); exact (Q_HO210 h0_ h1_)) hb) (fun _ h_ => by first | trivial | exact h_ | exact h_.1))
                      have z_BK217 := fun (h0_ : b 15 = true) (h1_ : b 16 = false) => (show w32.heap[gb217]? = some (.cells #[.bool false, .slice none 0 0, .slice none 0 0] 26 (0, 0)) from by first | exact (blk_below (g := gb217) (o := .cells #[.bool false, .slice none 0 0, .slice none 0 0] 26 (0, 0)) (by (with_reducible repeat (first | refine blk_drewN ?_ _ | refine blk_drew ?_ | refine blk_alloc ?_ _)); exact (Q_BK217 h0_ h1_)) hb))
                      clear BK194
                      clear BK195
                      clear HB
                      have HO201 := n0_
                      have BK194 := n1_
                      have BK195 := n2_
                      have HB := n3_
                      clear n0_ n1_ n2_ n3_
                      clear hb ho33
                      refine hK.out _ _ ⟨v200, v203, v206, v209, v212, v215, gb217, m14_, m15_, (by rw [ha.out]; exact putSel_upk 0 hb_ rfl rfl rfl), (by (with_reducible repeat (first | refine blk_drewN ?_ _ | refine blk_drew ?_ | refine blk_alloc ?_ _)); exact BK194.out), (by (with_reducible repeat (first | refine blk_drewN ?_ _ | refine blk_drew ?_ | refine blk_alloc ?_ _)); exact BK195.out), (by repeat (first | (with_reducible first | exact HB.out | apply below_alloc | apply pw_below_drewN | apply below_drew1 | refine below_set ?_ GE194.out | refine below_set ?_ GE195.out) | exact HB.out)), fun _ _ => (by (with_reducible repeat (first | apply Kd.R_alloc | apply Kd.R_drewN | apply Kd.R_drew)); exact HO201.out), fun h0_ _ => absurd ((hoff 3 (by kernel_rfl)).symm.trans h0_) (by decide), fun h0_ => absurd ((hoff 6 (by kernel_rfl)).symm.trans h0_) (by decide), z_HO210, fun h0_ _ => absurd ((hoff 10 (by kernel_rfl)).symm.trans h0_) (by decide), fun h0_ => absurd ((hoff 13 (by kernel_rfl)).symm.trans h0_) (by decide), z_BK217, Q_GW217, Q_GE217, Q_NB194_217, Q_NB217_194, Q_NB195_217, Q_NB217_195, fun h0_ => absurd ((hoff 16 (by kernel_rfl)).symm.trans h0_) (by decide), fun h0_ => absurd ((hoff 14 (by kernel_rfl)).symm.trans h0_) (by decide), Q_X15_⟩
                    refine steps_cons ?_ ?_
                    · rintro b a w' ⟨v200, v203, v206, v209, v212, v215, gb217, m14_, m15_, ha, Q_BK194, Q_BK195, Q_HB, Q_HO201, Q_HO204, Q_HO207, Q_HO210, Q_HO213, Q_HO216, Q_BK217, Q_GW217, Q_GE217, Q_NB194_217, Q_NB217_194, Q_NB195_217, Q_NB217_195, Q_BK217_e16, Q_X14_, Q_X15_⟩ hb_ hon hoff
                      refine ⟨_, rfl, fun K hK => ?_⟩
                      have e25 : a.tmps[25]? = some (.pointer (some ⟨gb194, 1, none⟩)) := by rw [ha]; exact (putSel_off rfl).trans rfl
                      replace ha := Aside0.mk ha
                      have BK194 := Aside0.mk Q_BK194
                      have BK195 := Aside0.mk Q_BK195
                      have HB := Aside0.mk Q_HB
                      have hc0_ : w'.cell? ⟨gb194, 0, none⟩ = some (.bool a0_0) := (blk_cell BK194.out 0).trans rfl
                      have hc1_ : w'.cell? ⟨gb194, 1, none⟩ = some (.slice A0_1 l0_1.length c0_1) := (blk_cell BK194.out 1).trans rfl
                      have hc2_ : w'.cell? ⟨gb194, 2, none⟩ = some (.slice A0_2 l0_2.length c0_2) := (blk_cell BK194.out 2).trans rfl
                      refine value_ (w1 := w') (v := .slice A0_1 l0_1.length c0_1) (by rfl) rfl ?_ ?_
                      · go_simp
                        (try simp only [i64_w])
                        try rfl
                      refine hK.out _ _ ⟨v200, v203, v206, v209, v212, v215, gb217, m14_, m15_, (by rw [ha.out]; exact putSel_upk 1 hb_ rfl rfl rfl), Q_BK194, Q_BK195, Q_HB, Q_HO201, fun h0_ _ => absurd ((hoff 3 (by kernel_rfl)).symm.trans h0_) (by decide), fun h0_ => absurd ((hoff 6 (by kernel_rfl)).symm.trans h0_) (by decide), Q_HO210, fun h0_ _ => absurd ((hoff 10 (by kernel_rfl)).symm.trans h0_) (by decide), fun h0_ => absurd ((hoff 13 (by kernel_rfl)).symm.trans h0_) (by decide), Q_BK217, Q_GW217, Q_GE217, Q_NB194_217, Q_NB217_194, Q_NB195_217, Q_NB217_195, fun h0_ => absurd ((hoff 16 (by kernel_rfl)).symm.trans h0_) (by decide), fun h0_ => absurd ((hoff 14 (by kernel_rfl)).symm.trans h0_) (by decide), Q_X15_⟩
                    refine steps_cons ?_ ?_
                    · rintro b a w' ⟨v200, v203, v206, v209, v212, v215, gb217, m14_, m15_, ha, Q_BK194, Q_BK195, Q_HB, Q_HO201, Q_HO204, Q_HO207, Q_HO210, Q_HO213, Q_HO216, Q_BK217, Q_GW217, Q_GE217, Q_NB194_217, Q_NB217_194, Q_NB195_217, Q_NB217_195, Q_BK217_e16, Q_X14_, Q_X15_⟩ hb_ hon hoff
                      refine ⟨_, rfl, fun K hK => ?_⟩
                      have e24 : a.tmps[24]? = some (v200) := by rw [ha]; exact putSel_on (e := (0, 24, v200)) 0 rfl rfl (hon 0 (by kernel_rfl)) rfl
                      have e26 : a.tmps[26]? = some (.slice A0_1 l0_1.length c0_1) := by rw [ha]; exact putSel_on (e := (2, 26, .slice A0_1 l0_1.length c0_1)) 1 rfl rfl (hon 2 (by kernel_rfl)) rfl
                      replace ha := Aside0.mk ha
                      have BK194 := Aside0.mk Q_BK194
                      have BK195 := Aside0.mk Q_BK195
                      have HB := Aside0.mk Q_HB
                      have HO201 := Aside0.mk (Q_HO201 (hon 0 (by kernel_rfl)) hb_)
                      refine Kd.R_append_rows_step k35 (w0 := w) w.heap.size (by rfl) (.tmp 24) (.tmp 26) 23 35 (.agg #[(.int .i64 0), (.int .u32 0), (.int .u32 0), (.int .u8 0)]) 24 rfl Try.underlying23 info35 rfl (by decide) (by omega) v200 y199 l0_1 _ _ _ (fun _ => True) (fun _ => False) (eval_of e24) (eval_of e26) ?aO ?aR (fun _ _ h => h) (fun _ h => h.elim) ?aF ?aB ?aS ?aL ?_
                      (case aR => repeat (first | exact (Kd.C_below HR0_1.out HB.out) | (with_reducible refine Kd.C_alloc ?_ _) | (with_reducible refine Kd.C_drewN ?_ _) | (with_reducible refine Kd.C_drew ?_)))
                      (case aB => exact (by repeat (first | (with_reducible first | exact HB.out | apply below_alloc | apply pw_below_drewN | apply below_drew1 | refine below_set ?_ GE194.out | refine below_set ?_ GE195.out) | exact HB.out)))
                      (case aF => exact (fun _ _ => trivial))
                      (case aO => exact (by (with_reducible repeat (first | apply Kd.R_alloc | apply Kd.R_drewN | apply Kd.R_drew)); exact HO201.out))
                      (case aS => exact (below_size (by repeat (first | (with_reducible first | exact HB.out | apply below_alloc | apply pw_below_drewN | apply below_drew1 | refine below_set ?_ GE194.out | refine below_set ?_ GE195.out) | exact HB.out))))
                      (case aL => have := LMc24.out; omega)
                      intro v203 w35 ho hb hg hat
                      rw [← Ny202.out] at ho
                      have n0_ := Aside0.mk (blk_grown (g := gb194) (o := .cells #[.bool a0_0, .slice A0_1 l0_1.length c0_1, .slice A0_2 l0_2.length c0_2] 26 (0, 0)) (by (with_reducible repeat (first | refine blk_drewN ?_ _ | refine blk_drew ?_ | refine blk_alloc ?_ _)); exact BK194.out) hg (Kd.R_ne HO201.out BK194.out (by decide)))
                      have n1_ := Aside0.mk (blk_grown (g := gb195) (o := .cells #[.bool a1_0, .slice A1_1 l1_1.length c1_1, .slice A1_2 l1_2.length c1_2] 26 (0, 0)) (by (with_reducible repeat (first | refine blk_drewN ?_ _ | refine blk_drew ?_ | refine blk_alloc ?_ _)); exact BK195.out) hg (Kd.R_ne HO201.out BK195.out (by decide)))
                      have n2_ := Aside0.mk (hb)
                      have n3_ := Aside0.mk (ho)
                      have z_HO210 := fun (h0_ : b 7 = true) (h1_ : b 10 = false) => (show Kd.R k37 37 w35 w.heap.size (fun _ => True) v209 y208 from by first | exact (Kd.R_over' (by (with_reducible repeat (first | apply Kd.R_alloc | apply Kd.R_drewN | apply Kd.R_drew)); exact (Q_HO210 h0_ h1_)) (Kd.R_typed (by (with_reducible repeat (first | apply Kd.R_alloc | apply Kd.R_drewN | apply Kd.R_drew)); exact HO201.out)) (by decide) hg) | exact Kd.R_mono (Kd.R_over' (by (with_reducible repeat (first | apply Kd.R_alloc | apply Kd.R_drewN | apply Kd.R_drew)); exact (Q_HO210 h0_ h1_)) (Kd.R_typed (by (with_reducible repeat (first | apply Kd.R_alloc | apply Kd.R_drewN | apply Kd.R_drew)); exact HO201.out)) (by decide) hg) (fun _ h_ => by first | trivial | exact h_ | exact h_.1))
                      have z_BK217 := fun (h0_ : b 15 = true) (h1_ : b 16 = false) => (show w35.heap[gb217]? = some (.cells #[.bool false, .slice none 0 0, .slice none 0 0] 26 (0, 0)) from by first | exact (blk_grown (g := gb217) (o := .cells #[.bool false, .slice none 0 0, .slice none 0 0] 26 (0, 0)) (by (with_reducible repeat (first | refine blk_drewN ?_ _ | refine blk_drew ?_ | refine blk_alloc ?_ _)); exact (Q_BK217 h0_ h1_)) hg (Kd.R_ne HO201.out (Q_BK217 h0_ h1_) (by decide))))
                      clear BK194
                      clear BK195
                      clear HB
                      clear HO201
                      have BK194 := n0_
                      have BK195 := n1_
                      have HB := n2_
                      have HO204 := n3_
                      clear n0_ n1_ n2_ n3_
                      clear ho hb hg hat
                      refine hK.out _ _ ⟨v200, v203, v206, v209, v212, v215, gb217, m14_, m15_, (by rw [ha.out]; exact putSel_upk 2 hb_ rfl rfl rfl), (by (with_reducible repeat (first | refine blk_drewN ?_ _ | refine blk_drew ?_ | refine blk_alloc ?_ _)); exact BK194.out), (by (with_reducible repeat (first | refine blk_drewN ?_ _ | refine blk_drew ?_ | refine blk_alloc ?_ _)); exact BK195.out), (by repeat (first | (with_reducible first | exact HB.out | apply below_alloc | apply pw_below_drewN | apply below_drew1 | refine below_set ?_ GE194.out | refine below_set ?_ GE195.out) | exact HB.out)), fun _ h1_ => absurd ((up_self b 3).symm.trans h1_) (by decide), fun _ _ => (by (with_reducible repeat (first | apply Kd.R_alloc | apply Kd.R_drewN | apply Kd.R_drew)); exact HO204.out), fun h0_ => absurd ((hoff 6 (by kernel_rfl)).symm.trans h0_) (by decide), z_HO210, fun h0_ _ => absurd ((hoff 10 (by kernel_rfl)).symm.trans h0_) (by decide), fun h0_ => absurd ((hoff 13 (by kernel_rfl)).symm.trans h0_) (by decide), z_BK217, Q_GW217, Q_GE217, Q_NB194_217, Q_NB217_194, Q_NB195_217, Q_NB217_195, fun h0_ => absurd ((hoff 16 (by kernel_rfl)).symm.trans h0_) (by decide), fun h0_ => absurd ((hoff 14 (by kernel_rfl)).symm.trans h0_) (by decide), Q_X15_⟩
                    refine steps_cons ?_ ?_
                    · rintro b a w' ⟨v200, v203, v206, v209, v212, v215, gb217, m14_, m15_, ha, Q_BK194, Q_BK195, Q_HB, Q_HO201, Q_HO204, Q_HO207, Q_HO210, Q_HO213, Q_HO216, Q_BK217, Q_GW217, Q_GE217, Q_NB194_217, Q_NB217_194, Q_NB195_217, Q_NB217_195, Q_BK217_e16, Q_X14_, Q_X15_⟩ hb_ hon hoff
                      refine ⟨_, rfl, fun K hK => ?_⟩
                      have e28 : a.tmps[28]? = some (.pointer (some ⟨gb195, 1, none⟩)) := by rw [ha]; exact (putSel_off rfl).trans rfl
                      replace ha := Aside0.mk ha
                      have BK194 := Aside0.mk Q_BK194
                      have BK195 := Aside0.mk Q_BK195
                      have HB := Aside0.mk Q_HB
                      have hc0_ : w'.cell? ⟨gb195, 0, none⟩ = some (.bool a1_0) := (blk_cell BK195.out 0).trans rfl
                      have hc1_ : w'.cell? ⟨gb195, 1, none⟩ = some (.slice A1_1 l1_1.length c1_1) := (blk_cell BK195.out 1).trans rfl
                      have hc2_ : w'.cell? ⟨gb195, 2, none⟩ = some (.slice A1_2 l1_2.length c1_2) := (blk_cell BK195.out 2).trans rfl
                      refine value_ (w1 := w') (v := .slice A1_1 l1_1.length c1_1) (by rfl) rfl ?_ ?_
                      · go_simp
                        (try simp only [i64_w])
                        try rfl
                      refine hK.out _ _ ⟨v200, v203, v206, v209, v212, v215, gb217, m14_, m15_, (by rw [ha.out]; exact putSel_upk 3 hb_ rfl rfl rfl), Q_BK194, Q_BK195, Q_HB, Q_HO201, Q_HO204, fun h0_ => absurd ((hoff 6 (by kernel_rfl)).symm.trans h0_) (by decide), Q_HO210, fun h0_ _ => absurd ((hoff 10 (by kernel_rfl)).symm.trans h0_) (by decide), fun h0_ => absurd ((hoff 13 (by kernel_rfl)).symm.trans h0_) (by decide), Q_BK217, Q_GW217, Q_GE217, Q_NB194_217, Q_NB217_194, Q_NB195_217, Q_NB217_195, fun h0_ => absurd ((hoff 16 (by kernel_rfl)).symm.trans h0_) (by decide), fun h0_ => absurd ((hoff 14 (by kernel_rfl)).symm.trans h0_) (by decide), Q_X15_⟩
                    refine steps_cons ?_ ?_
                    · rintro b a w' ⟨v200, v203, v206, v209, v212, v215, gb217, m14_, m15_, ha, Q_BK194, Q_BK195, Q_HB, Q_HO201, Q_HO204, Q_HO207, Q_HO210, Q_HO213, Q_HO216, Q_BK217, Q_GW217, Q_GE217, Q_NB194_217, Q_NB217_194, Q_NB195_217, Q_NB217_195, Q_BK217_e16, Q_X14_, Q_X15_⟩ hb_ hon hoff
                      refine ⟨_, rfl, fun K hK => ?_⟩
                      have e27 : a.tmps[27]? = some (v203) := by rw [ha]; exact putSel_on (e := (3, 27, v203)) 2 rfl rfl (hon 3 (by kernel_rfl)) rfl
                      have e29 : a.tmps[29]? = some (.slice A1_1 l1_1.length c1_1) := by rw [ha]; exact putSel_on (e := (5, 29, .slice A1_1 l1_1.length c1_1)) 3 rfl rfl (hon 5 (by kernel_rfl)) rfl
                      replace ha := Aside0.mk ha
                      have BK194 := Aside0.mk Q_BK194
                      have BK195 := Aside0.mk Q_BK195
                      have HB := Aside0.mk Q_HB
                      have HO204 := Aside0.mk (Q_HO204 (hon 3 (by kernel_rfl)) hb_)
                      refine Kd.R_append_rows_step k35 (w0 := w) w.heap.size (by rfl) (.tmp 27) (.tmp 29) 23 35 (.agg #[(.int .i64 0), (.int .u32 0), (.int .u32 0), (.int .u8 0)]) 24 rfl Try.underlying23 info35 rfl (by decide) (by omega) v203 y202 l1_1 _ _ _ (fun _ => True) (fun _ => False) (eval_of e27) (eval_of e29) ?aO ?aR (fun _ _ h => h) (fun _ h => h.elim) ?aF ?aB ?aS ?aL ?_
                      (case aR => repeat (first | exact (Kd.C_below HR1_1.out HB.out) | (with_reducible refine Kd.C_alloc ?_ _) | (with_reducible refine Kd.C_drewN ?_ _) | (with_reducible refine Kd.C_drew ?_)))
                      (case aB => exact (by repeat (first | (with_reducible first | exact HB.out | apply below_alloc | apply pw_below_drewN | apply below_drew1 | refine below_set ?_ GE194.out | refine below_set ?_ GE195.out) | exact HB.out)))
                      (case aF => exact (fun _ _ => trivial))
                      (case aO => exact (by (with_reducible repeat (first | apply Kd.R_alloc | apply Kd.R_drewN | apply Kd.R_drew)); exact HO204.out))
                      (case aS => exact (below_size (by repeat (first | (with_reducible first | exact HB.out | apply below_alloc | apply pw_below_drewN | apply below_drew1 | refine below_set ?_ GE194.out | refine below_set ?_ GE195.out) | exact HB.out))))
                      (case aL => have := LMc25.out; omega)
                      intro v206 w36 ho hb hg hat
                      rw [← Ny205.out] at ho
                      have n0_ := Aside0.mk (blk_grown (g := gb194) (o := .cells #[.bool a0_0, .slice A0_1 l0_1.length c0_1, .slice A0_2 l0_2.length c0_2] 26 (0, 0)) (by (with_reducible repeat (first | refine blk_drewN ?_ _ | refine blk_drew ?_ | refine blk_alloc ?_ _)); exact BK194.out) hg (Kd.R_ne HO204.out BK194.out (by decide)))
                      have n1_ := Aside0.mk (blk_grown (g := gb195) (o := .cells #[.bool a1_0, .slice A1_1 l1_1.length c1_1, .slice A1_2 l1_2.length c1_2] 26 (0, 0)) (by (with_reducible repeat (first | refine blk_drewN ?_ _ | refine blk_drew ?_ | refine blk_alloc ?_ _)); exact BK195.out) hg (Kd.R_ne HO204.out BK195.out (by decide)))
                      have n2_ := Aside0.mk (hb)
                      have n3_ := Aside0.mk (ho)
                      have z_HO210 := fun (h0_ : b 7 = true) (h1_ : b 10 = false) => (show Kd.R k37 37 w36 w.heap.size (fun _ => True) v209 y208 from by first | exact (Kd.R_over' (by (with_reducible repeat (first | apply Kd.R_alloc | apply Kd.R_drewN | apply Kd.R_drew)); exact (Q_HO210 h0_ h1_)) (Kd.R_typed (by (with_reducible repeat (first | apply Kd.R_alloc | apply Kd.R_drewN | apply Kd.R_drew)); exact HO204.out)) (by decide) hg) | exact Kd.R_mono (Kd.R_over' (by (with_reducible repeat (first | apply Kd.R_alloc | apply Kd.R_drewN | apply Kd.R_drew)); exact (Q_HO210 h0_ h1_)) (Kd.R_typed (by (with_reducible repeat (first | apply Kd.R_alloc | apply Kd.R_drewN | apply Kd.R_drew)); exact HO204.out)) (by decide) hg) (fun _ h_ => by first | trivial | exact h_ | exact h_.1))
                      have z_BK217 := fun (h0_ : b 15 = true) (h1_ : b 16 = false) => (show w36.heap[gb217]? = some (.cells #[.bool false, .slice none 0 0, .slice none 0 0] 26 (0, 0)) from by first | exact (blk_grown (g := gb217) (o := .cells #[.bool false, .slice none 0 0, .slice none 0 0] 26 (0, 0)) (by (with_reducible repeat (first | refine blk_drewN ?_ _ | refine blk_drew ?_ | refine blk_alloc ?_ _)); exact (Q_BK217 h0_ h1_)) hg (Kd.R_ne HO204.out (Q_BK217 h0_ h1_) (by decide))))
                      clear BK194
                      clear BK195
                      clear HB
                      clear HO204
                      have BK194 := n0_
                      have BK195 := n1_
                      have HB := n2_
                      have HO207 := n3_
                      clear n0_ n1_ n2_ n3_
                      clear ho hb hg hat
                      refine hK.out _ _ ⟨v200, v203, v206, v209, v212, v215, gb217, m14_, m15_, (by rw [ha.out]; exact putSel_upk 4 hb_ rfl rfl rfl), (by (with_reducible repeat (first | refine blk_drewN ?_ _ | refine blk_drew ?_ | refine blk_alloc ?_ _)); exact BK194.out), (by (with_reducible repeat (first | refine blk_drewN ?_ _ | refine blk_drew ?_ | refine blk_alloc ?_ _)); exact BK195.out), (by repeat (first | (with_reducible first | exact HB.out | apply below_alloc | apply pw_below_drewN | apply below_drew1 | refine below_set ?_ GE194.out | refine below_set ?_ GE195.out) | exact HB.out)), fun _ h1_ => absurd ((hon 3 (by kernel_rfl)).symm.trans h1_) (by decide), fun _ h1_ => absurd ((up_self b 6).symm.trans h1_) (by decide), fun _ => (by (with_reducible repeat (first | apply Kd.R_alloc | apply Kd.R_drewN | apply Kd.R_drew)); exact HO207.out), z_HO210, fun h0_ _ => absurd ((hoff 10 (by kernel_rfl)).symm.trans h0_) (by decide), fun h0_ => absurd ((hoff 13 (by kernel_rfl)).symm.trans h0_) (by decide), z_BK217, Q_GW217, Q_GE217, Q_NB194_217, Q_NB217_194, Q_NB195_217, Q_NB217_195, fun h0_ => absurd ((hoff 16 (by kernel_rfl)).symm.trans h0_) (by decide), fun h0_ => absurd ((hoff 14 (by kernel_rfl)).symm.trans h0_) (by decide), Q_X15_⟩
                    refine steps_cons ?_ ?_
                    · rintro b a w' ⟨v200, v203, v206, v209, v212, v215, gb217, m14_, m15_, ha, Q_BK194, Q_BK195, Q_HB, Q_HO201, Q_HO204, Q_HO207, Q_HO210, Q_HO213, Q_HO216, Q_BK217, Q_GW217, Q_GE217, Q_NB194_217, Q_NB217_194, Q_NB195_217, Q_NB217_195, Q_BK217_e16, Q_X14_, Q_X15_⟩ hb_ hon hoff
                      refine ⟨_, rfl, fun K hK => ?_⟩
                      replace ha := Aside0.mk ha
                      have BK194 := Aside0.mk Q_BK194
                      have BK195 := Aside0.mk Q_BK195
                      have HB := Aside0.mk Q_HB
                      refine Kd.R_lit_step k37 _ 37 ?hg (N := 31) ?hd (xs := ([] : List (S37))) (inner := []) (ok := fun _ => True) (okp := fun _ => True) ?hr ?hp (fun _ hk => hk) trivial (Below.refl _ _) (Nat.le_refl _) (by simp) ?_; (case hd => rfl); (case hg => rfl); (case hr => first | (go_simp; done) | (go_simp; rfl)); (case hp => exact (Reps.none _ _))
                      intro v209 w32 ho33 hb hg_ hnew_
                      clear hg_ hnew_
                      (first | rw [← Ny208.out] at ho33 | (simp only [Int.reduceToNat] at ho33; rw [← Ny208.out] at ho33))
                      have n0_ := Aside0.mk (Kd.R_lower ho33 (below_size (by repeat (first | (with_reducible first | exact HB.out | apply below_alloc | apply pw_below_drewN | apply below_drew1 | refine below_set ?_ GE194.out | refine below_set ?_ GE195.out) | exact HB.out))))
                      have n1_ := Aside0.mk (blk_below (g := gb194) (o := .cells #[.bool a0_0, .slice A0_1 l0_1.length c0_1, .slice A0_2 l0_2.length c0_2] 26 (0, 0)) (by (with_reducible repeat (first | refine blk_drewN ?_ _ | refine blk_drew ?_ | refine blk_alloc ?_ _)); exact BK194.out) hb)
                      have n2_ := Aside0.mk (blk_below (g := gb195) (o := .cells #[.bool a1_0, .slice A1_1 l1_1.length c1_1, .slice A1_2 l1_2.length c1_2] 26 (0, 0)) (by (with_reducible repeat (first | refine blk_drewN ?_ _ | refine blk_drew ?_ | refine blk_alloc ?_ _)); exact BK195.out) hb)
                      have n3_ := Aside0.mk (below_step (by repeat (first | (with_reducible first | exact HB.out | apply below_alloc | apply pw_below_drewN | apply below_drew1 | refine below_set ?_ GE194.out | refine below_set ?_ GE195.out) | exact HB.out)) hb)
                      have z_HO201 := fun (h0_ : b 0 = true) (h1_ : b 3 = false) => (show Kd.R k35 35 w32 w.heap.size (fun _ => True) v200 y199 from by first | exact (Kd.R_below (by (with_reducible repeat (first | apply Kd.R_alloc | apply Kd.R_drewN | apply Kd.R_drew)); exact (Q_HO201 h0_ h1_)) hb) | exact Kd.R_mono (Kd.R_below (by (with_reducible repeat (first | apply Kd.R_alloc | apply Kd.R_drewN | apply Kd.R_drew)); exact (Q_HO201 h0_ h1_)) hb) (fun _ h_ => by first | trivial | exact h_ | exact h_.1))
                      have z_HO204 := fun (h0_ : b 3 = true) (h1_ : b 6 = false) => (show Kd.R k35 35 w32 w.heap.size (fun _ => True) v203 y202 from by first | exact (Kd.R_below (by (with_reducible repeat (first | apply Kd.R_alloc | apply Kd.R_drewN | apply Kd.R_drew)); exact (Q_HO204 h0_ h1_)) hb) | exact Kd.R_mono (Kd.R_below (by (with_reducible repeat (first | apply Kd.R_alloc | apply Kd.R_drewN | apply Kd.R_drew)); exact (Q_HO204 h0_ h1_)) hb) (fun _ h_ => by first | trivial | exact h_ | exact h_.1))
                      have z_HO207 := fun (h0_ : b 6 = true) => (show Kd.R k35 35 w32 w.heap.size (fun _ => True) v206 y205 from by first | exact (Kd.R_below (by (with_reducible repeat (first | apply Kd.R_alloc | apply Kd.R_drewN | apply Kd.R_drew)); exact (Q_HO207 h0_)) hb) | exact Kd.R_mono (Kd.R_below (by (with_reducible repeat (first | apply Kd.R_alloc | apply Kd.R_drewN | apply Kd.R_drew)); exact (Q_HO207 h0_)) hb) (fun _ h_ => by first | trivial | exact h_ | exact h_.1))
                      have z_BK217 := fun (h0_ : b 15 = true) (h1_ : b 16 = false) => (show w32.heap[gb217]? = some (.cells #[.bool false, .slice none 0 0, .slice none 0 0] 26 (0, 0)) from by first | exact (blk_below (g := gb217) (o := .cells #[.bool false, .slice none 0 0, .slice none 0 0] 26 (0, 0)) (by (with_reducible repeat (first | refine blk_drewN ?_ _ | refine blk_drew ?_ | refine blk_alloc ?_ _)); exact (Q_BK217 h0_ h1_)) hb))
                      clear BK194
                      clear BK195
                      clear HB
                      have HO210 := n0_
                      have BK194 := n1_
                      have BK195 := n2_
                      have HB := n3_
                      clear n0_ n1_ n2_ n3_
                      clear hb ho33
                      refine hK.out _ _ ⟨v200, v203, v206, v209, v212, v215, gb217, m14_, m15_, (by rw [ha.out]; exact putSel_upk 5 hb_ rfl rfl rfl), (by (with_reducible repeat (first | refine blk_drewN ?_ _ | refine blk_drew ?_ | refine blk_alloc ?_ _)); exact BK194.out), (by (with_reducible repeat (first | refine blk_drewN ?_ _ | refine blk_drew ?_ | refine blk_alloc ?_ _)); exact BK195.out), (by repeat (first | (with_reducible first | exact HB.out | apply below_alloc | apply pw_below_drewN | apply below_drew1 | refine below_set ?_ GE194.out | refine below_set ?_ GE195.out) | exact HB.out)), z_HO201, z_HO204, z_HO207, fun _ _ => (by (with_reducible repeat (first | apply Kd.R_alloc | apply Kd.R_drewN | apply Kd.R_drew)); exact HO210.out), fun h0_ _ => absurd ((hoff 10 (by kernel_rfl)).symm.trans h0_) (by decide), fun h0_ => absurd ((hoff 13 (by kernel_rfl)).symm.trans h0_) (by decide), z_BK217, Q_GW217, Q_GE217, Q_NB194_217, Q_NB217_194, Q_NB195_217, Q_NB217_195, fun h0_ => absurd ((hoff 16 (by kernel_rfl)).symm.trans h0_) (by decide), fun h0_ => absurd ((hoff 14 (by kernel_rfl)).symm.trans h0_) (by decide), Q_X15_⟩
                    refine steps_cons ?_ ?_
                    · rintro b a w' ⟨v200, v203, v206, v209, v212, v215, gb217, m14_, m15_, ha, Q_BK194, Q_BK195, Q_HB, Q_HO201, Q_HO204, Q_HO207, Q_HO210, Q_HO213, Q_HO216, Q_BK217, Q_GW217, Q_GE217, Q_NB194_217, Q_NB217_194, Q_NB195_217, Q_NB217_195, Q_BK217_e16, Q_X14_, Q_X15_⟩ hb_ hon hoff
                      refine ⟨_, rfl, fun K hK => ?_⟩
                      have e32 : a.tmps[32]? = some (.pointer (some ⟨gb194, 2, none⟩)) := by rw [ha]; exact (putSel_off rfl).trans rfl
                      replace ha := Aside0.mk ha
                      have BK194 := Aside0.mk Q_BK194
                      have BK195 := Aside0.mk Q_BK195
                      have HB := Aside0.mk Q_HB
                      have hc0_ : w'.cell? ⟨gb194, 0, none⟩ = some (.bool a0_0) := (blk_cell BK194.out 0).trans rfl
                      have hc1_ : w'.cell? ⟨gb194, 1, none⟩ = some (.slice A0_1 l0_1.length c0_1) := (blk_cell BK194.out 1).trans rfl
                      have hc2_ : w'.cell? ⟨gb194, 2, none⟩ = some (.slice A0_2 l0_2.length c0_2) := (blk_cell BK194.out 2).trans rfl
                      refine value_ (w1 := w') (v := .slice A0_2 l0_2.length c0_2) (by rfl) rfl ?_ ?_
                      · go_simp
                        (try simp only [i64_w])
                        try rfl
                      refine hK.out _ _ ⟨v200, v203, v206, v209, v212, v215, gb217, m14_, m15_, (by rw [ha.out]; exact putSel_upk 6 hb_ rfl rfl rfl), Q_BK194, Q_BK195, Q_HB, Q_HO201, Q_HO204, Q_HO207, Q_HO210, fun h0_ _ => absurd ((hoff 10 (by kernel_rfl)).symm.trans h0_) (by decide), fun h0_ => absurd ((hoff 13 (by kernel_rfl)).symm.trans h0_) (by decide), Q_BK217, Q_GW217, Q_GE217, Q_NB194_217, Q_NB217_194, Q_NB195_217, Q_NB217_195, fun h0_ => absurd ((hoff 16 (by kernel_rfl)).symm.trans h0_) (by decide), fun h0_ => absurd ((hoff 14 (by kernel_rfl)).symm.trans h0_) (by decide), Q_X15_⟩
                    refine steps_cons ?_ ?_
                    · rintro b a w' ⟨v200, v203, v206, v209, v212, v215, gb217, m14_, m15_, ha, Q_BK194, Q_BK195, Q_HB, Q_HO201, Q_HO204, Q_HO207, Q_HO210, Q_HO213, Q_HO216, Q_BK217, Q_GW217, Q_GE217, Q_NB194_217, Q_NB217_194, Q_NB195_217, Q_NB217_195, Q_BK217_e16, Q_X14_, Q_X15_⟩ hb_ hon hoff
                      refine ⟨_, rfl, fun K hK => ?_⟩
                      have e31 : a.tmps[31]? = some (v209) := by rw [ha]; exact putSel_on (e := (7, 31, v209)) 5 rfl rfl (hon 7 (by kernel_rfl)) rfl
                      have e33 : a.tmps[33]? = some (.slice A0_2 l0_2.length c0_2) := by rw [ha]; exact putSel_on (e := (9, 33, .slice A0_2 l0_2.length c0_2)) 6 rfl rfl (hon 9 (by kernel_rfl)) rfl
                      replace ha := Aside0.mk ha
                      have BK194 := Aside0.mk Q_BK194
                      have BK195 := Aside0.mk Q_BK195
                      have HB := Aside0.mk Q_HB
                      have HO207 := Aside0.mk (Q_HO207 (hon 6 (by kernel_rfl)))
                      have HO210 := Aside0.mk (Q_HO210 (hon 7 (by kernel_rfl)) hb_)
                      refine Kd.R_append_rows_step k37 (w0 := w) w.heap.size (by rfl) (.tmp 31) (.tmp 33) 24 37 (.agg #[(.int .i64 0), (.int .i64 0), (.int .u8 0)]) 24 rfl Try.underlying24 info37 rfl (by decide) (by omega) v209 y208 l0_2 _ _ _ (fun _ => True) (fun _ => False) (eval_of e31) (eval_of e33) ?aO ?aR (fun _ _ h => h) (fun _ h => h.elim) ?aF ?aB ?aS ?aL ?_
                      (case aR => repeat (first | exact (Kd.C_below HR0_2.out HB.out) | (with_reducible refine Kd.C_alloc ?_ _) | (with_reducible refine Kd.C_drewN ?_ _) | (with_reducible refine Kd.C_drew ?_)))
                      (case aB => exact (by repeat (first | (with_reducible first | exact HB.out | apply below_alloc | apply pw_below_drewN | apply below_drew1 | refine below_set ?_ GE194.out | refine below_set ?_ GE195.out) | exact HB.out)))
                      (case aF => exact (fun _ _ => trivial))
                      (case aO => exact (by (with_reducible repeat (first | apply Kd.R_alloc | apply Kd.R_drewN | apply Kd.R_drew)); exact HO210.out))
                      (case aS => exact (below_size (by repeat (first | (with_reducible first | exact HB.out | apply below_alloc | apply pw_below_drewN | apply below_drew1 | refine below_set ?_ GE194.out | refine below_set ?_ GE195.out) | exact HB.out))))
                      (case aL => have := LMc26.out; omega)
                      intro v212 w39 ho hb hg hat
                      rw [← Ny211.out] at ho
                      have n0_ := Aside0.mk (blk_grown (g := gb194) (o := .cells #[.bool a0_0, .slice A0_1 l0_1.length c0_1, .slice A0_2 l0_2.length c0_2] 26 (0, 0)) (by (with_reducible repeat (first | refine blk_drewN ?_ _ | refine blk_drew ?_ | refine blk_alloc ?_ _)); exact BK194.out) hg (Kd.R_ne HO210.out BK194.out (by decide)))
                      have n1_ := Aside0.mk (blk_grown (g := gb195) (o := .cells #[.bool a1_0, .slice A1_1 l1_1.length c1_1, .slice A1_2 l1_2.length c1_2] 26 (0, 0)) (by (with_reducible repeat (first | refine blk_drewN ?_ _ | refine blk_drew ?_ | refine blk_alloc ?_ _)); exact BK195.out) hg (Kd.R_ne HO210.out BK195.out (by decide)))
                      have n2_ := Aside0.mk (Kd.R_over' (by (with_reducible repeat (first | apply Kd.R_alloc | apply Kd.R_drewN | apply Kd.R_drew)); exact HO207.out) (Kd.R_typed (by (with_reducible repeat (first | apply Kd.R_alloc | apply Kd.R_drewN | apply Kd.R_drew)); exact HO210.out)) (by decide) hg)
                      have n3_ := Aside0.mk (hb)
                      have n4_ := Aside0.mk (ho)
                      have z_BK217 := fun (h0_ : b 15 = true) (h1_ : b 16 = false) => (show w39.heap[gb217]? = some (.cells #[.bool false, .slice none 0 0, .slice none 0 0] 26 (0, 0)) from by first | exact (blk_grown (g := gb217) (o := .cells #[.bool false, .slice none 0 0, .slice none 0 0] 26 (0, 0)) (by (with_reducible repeat (first | refine blk_drewN ?_ _ | refine blk_drew ?_ | refine blk_alloc ?_ _)); exact (Q_BK217 h0_ h1_)) hg (Kd.R_ne HO210.out (Q_BK217 h0_ h1_) (by decide))))
                      clear BK194
                      clear BK195
                      clear HO207
                      clear HB
                      clear HO210
                      have BK194 := n0_
                      have BK195 := n1_
                      have HO207 := n2_
                      have HB := n3_
                      have HO213 := n4_
                      clear n0_ n1_ n2_ n3_ n4_
                      clear ho hb hg hat
                      refine hK.out _ _ ⟨v200, v203, v206, v209, v212, v215, gb217, m14_, m15_, (by rw [ha.out]; exact putSel_upk 7 hb_ rfl rfl rfl), (by (with_reducible repeat (first | refine blk_drewN ?_ _ | refine blk_drew ?_ | refine blk_alloc ?_ _)); exact BK194.out), (by (with_reducible repeat (first | refine blk_drewN ?_ _ | refine blk_drew ?_ | refine blk_alloc ?_ _)); exact BK195.out), (by repeat (first | (with_reducible first | exact HB.out | apply below_alloc | apply pw_below_drewN | apply below_drew1 | refine below_set ?_ GE194.out | refine below_set ?_ GE195.out) | exact HB.out)), fun _ h1_ => absurd ((hon 3 (by kernel_rfl)).symm.trans h1_) (by decide), fun _ h1_ => absurd ((hon 6 (by kernel_rfl)).symm.trans h1_) (by decide), fun _ => (by (with_reducible repeat (first | apply Kd.R_alloc | apply Kd.R_drewN | apply Kd.R_drew)); exact HO207.out), fun _ h1_ => absurd ((up_self b 10).symm.trans h1_) (by decide), fun _ _ => (by (with_reducible repeat (first | apply Kd.R_alloc | apply Kd.R_drewN | apply Kd.R_drew)); exact HO213.out), fun h0_ => absurd ((hoff 13 (by kernel_rfl)).symm.trans h0_) (by decide), z_BK217, Q_GW217, Q_GE217, Q_NB194_217, Q_NB217_194, Q_NB195_217, Q_NB217_195, fun h0_ => absurd ((hoff 16 (by kernel_rfl)).symm.trans h0_) (by decide), fun h0_ => absurd ((hoff 14 (by kernel_rfl)).symm.trans h0_) (by decide), Q_X15_⟩
                    refine steps_cons ?_ ?_
                    · rintro b a w' ⟨v200, v203, v206, v209, v212, v215, gb217, m14_, m15_, ha, Q_BK194, Q_BK195, Q_HB, Q_HO201, Q_HO204, Q_HO207, Q_HO210, Q_HO213, Q_HO216, Q_BK217, Q_GW217, Q_GE217, Q_NB194_217, Q_NB217_194, Q_NB195_217, Q_NB217_195, Q_BK217_e16, Q_X14_, Q_X15_⟩ hb_ hon hoff
                      refine ⟨_, rfl, fun K hK => ?_⟩
                      have e35 : a.tmps[35]? = some (.pointer (some ⟨gb195, 2, none⟩)) := by rw [ha]; exact (putSel_off rfl).trans rfl
                      replace ha := Aside0.mk ha
                      have BK194 := Aside0.mk Q_BK194
                      have BK195 := Aside0.mk Q_BK195
                      have HB := Aside0.mk Q_HB
                      have hc0_ : w'.cell? ⟨gb195, 0, none⟩ = some (.bool a1_0) := (blk_cell BK195.out 0).trans rfl
                      have hc1_ : w'.cell? ⟨gb195, 1, none⟩ = some (.slice A1_1 l1_1.length c1_1) := (blk_cell BK195.out 1).trans rfl
                      have hc2_ : w'.cell? ⟨gb195, 2, none⟩ = some (.slice A1_2 l1_2.length c1_2) := (blk_cell BK195.out 2).trans rfl
                      refine value_ (w1 := w') (v := .slice A1_2 l1_2.length c1_2) (by rfl) rfl ?_ ?_
                      · go_simp
                        (try simp only [i64_w])
                        try rfl
                      refine hK.out _ _ ⟨v200, v203, v206, v209, v212, v215, gb217, m14_, m15_, (by rw [ha.out]; exact putSel_upk 8 hb_ rfl rfl rfl), Q_BK194, Q_BK195, Q_HB, Q_HO201, Q_HO204, Q_HO207, Q_HO210, Q_HO213, fun h0_ => absurd ((hoff 13 (by kernel_rfl)).symm.trans h0_) (by decide), Q_BK217, Q_GW217, Q_GE217, Q_NB194_217, Q_NB217_194, Q_NB195_217, Q_NB217_195, fun h0_ => absurd ((hoff 16 (by kernel_rfl)).symm.trans h0_) (by decide), fun h0_ => absurd ((hoff 14 (by kernel_rfl)).symm.trans h0_) (by decide), Q_X15_⟩
                    refine steps_cons ?_ ?_
                    · rintro b a w' ⟨v200, v203, v206, v209, v212, v215, gb217, m14_, m15_, ha, Q_BK194, Q_BK195, Q_HB, Q_HO201, Q_HO204, Q_HO207, Q_HO210, Q_HO213, Q_HO216, Q_BK217, Q_GW217, Q_GE217, Q_NB194_217, Q_NB217_194, Q_NB195_217, Q_NB217_195, Q_BK217_e16, Q_X14_, Q_X15_⟩ hb_ hon hoff
                      refine ⟨_, rfl, fun K hK => ?_⟩
                      have e34 : a.tmps[34]? = some (v212) := by rw [ha]; exact putSel_on (e := (10, 34, v212)) 7 rfl rfl (hon 10 (by kernel_rfl)) rfl
                      have e36 : a.tmps[36]? = some (.slice A1_2 l1_2.length c1_2) := by rw [ha]; exact putSel_on (e := (12, 36, .slice A1_2 l1_2.length c1_2)) 8 rfl rfl (hon 12 (by kernel_rfl)) rfl
                      replace ha := Aside0.mk ha
                      have BK194 := Aside0.mk Q_BK194
                      have BK195 := Aside0.mk Q_BK195
                      have HB := Aside0.mk Q_HB
                      have HO207 := Aside0.mk (Q_HO207 (hon 6 (by kernel_rfl)))
                      have HO213 := Aside0.mk (Q_HO213 (hon 10 (by kernel_rfl)) hb_)
                      refine Kd.R_append_rows_step k37 (w0 := w) w.heap.size (by rfl) (.tmp 34) (.tmp 36) 24 37 (.agg #[(.int .i64 0), (.int .i64 0), (.int .u8 0)]) 24 rfl Try.underlying24 info37 rfl (by decide) (by omega) v212 y211 l1_2 _ _ _ (fun _ => True) (fun _ => False) (eval_of e34) (eval_of e36) ?aO ?aR (fun _ _ h => h) (fun _ h => h.elim) ?aF ?aB ?aS ?aL ?_
                      (case aR => repeat (first | exact (Kd.C_below HR1_2.out HB.out) | (with_reducible refine Kd.C_alloc ?_ _) | (with_reducible refine Kd.C_drewN ?_ _) | (with_reducible refine Kd.C_drew ?_)))
                      (case aB => exact (by repeat (first | (with_reducible first | exact HB.out | apply below_alloc | apply pw_below_drewN | apply below_drew1 | refine below_set ?_ GE194.out | refine below_set ?_ GE195.out) | exact HB.out)))
                      (case aF => exact (fun _ _ => trivial))
                      (case aO => exact (by (with_reducible repeat (first | apply Kd.R_alloc | apply Kd.R_drewN | apply Kd.R_drew)); exact HO213.out))
                      (case aS => exact (below_size (by repeat (first | (with_reducible first | exact HB.out | apply below_alloc | apply pw_below_drewN | apply below_drew1 | refine below_set ?_ GE194.out | refine below_set ?_ GE195.out) | exact HB.out))))
                      (case aL => have := LMc27.out; omega)
                      intro v215 w40 ho hb hg hat
                      rw [← Ny214.out] at ho
                      have n0_ := Aside0.mk (blk_grown (g := gb194) (o := .cells #[.bool a0_0, .slice A0_1 l0_1.length c0_1, .slice A0_2 l0_2.length c0_2] 26 (0, 0)) (by (with_reducible repeat (first | refine blk_drewN ?_ _ | refine blk_drew ?_ | refine blk_alloc ?_ _)); exact BK194.out) hg (Kd.R_ne HO213.out BK194.out (by decide)))
                      have n1_ := Aside0.mk (blk_grown (g := gb195) (o := .cells #[.bool a1_0, .slice A1_1 l1_1.length c1_1, .slice A1_2 l1_2.length c1_2] 26 (0, 0)) (by (with_reducible repeat (first | refine blk_drewN ?_ _ | refine blk_drew ?_ | refine blk_alloc ?_ _)); exact BK195.out) hg (Kd.R_ne HO213.out BK195.out (by decide)))
                      have n2_ := Aside0.mk (Kd.R_over' (by (with_reducible repeat (first | apply Kd.R_alloc | apply Kd.R_drewN | apply Kd.R_drew)); exact HO207.out) (Kd.R_typed (by (with_reducible repeat (first | apply Kd.R_alloc | apply Kd.R_drewN | apply Kd.R_drew)); exact HO213.out)) (by decide) hg)
                      have n3_ := Aside0.mk (hb)
                      have n4_ := Aside0.mk (ho)
                      have z_BK217 := fun (h0_ : b 15 = true) (h1_ : b 16 = false) => (show w40.heap[gb217]? = some (.cells #[.bool false, .slice none 0 0, .slice none 0 0] 26 (0, 0)) from by first | exact (blk_grown (g := gb217) (o := .cells #[.bool false, .slice none 0 0, .slice none 0 0] 26 (0, 0)) (by (with_reducible repeat (first | refine blk_drewN ?_ _ | refine blk_drew ?_ | refine blk_alloc ?_ _)); exact (Q_BK217 h0_ h1_)) hg (Kd.R_ne HO213.out (Q_BK217 h0_ h1_) (by decide))))
                      clear BK194
                      clear BK195
                      clear HO207
                      clear HB
                      clear HO213
                      have BK194 := n0_
                      have BK195 := n1_
                      have HO207 := n2_
                      have HB := n3_
                      have HO216 := n4_
                      clear n0_ n1_ n2_ n3_ n4_
                      clear ho hb hg hat
                      obtain ⟨Ao41, co41, eo41⟩ := Kd.R_slice HO216.out
                      (first | subst eo41 | (injection eo41 with f1_ f2_ f3_; have f4_ := f1_.symm; have f5_ := f3_.symm; clear f1_ f2_ f3_; subst f4_; subst f5_))
                      obtain ⟨Ao42, co42, eo42⟩ := Kd.R_slice HO207.out
                      (first | subst eo42 | (injection eo42 with f1_ f2_ f3_; have f4_ := f1_.symm; have f5_ := f3_.symm; clear f1_ f2_ f3_; subst f4_; subst f5_))
                      refine hK.out _ _ ⟨v200, v203, .slice Ao42 y205.length co42, v209, v212, .slice Ao41 y214.length co41, gb217, m14_, m15_, (by rw [ha.out]; exact putSel_upk 9 hb_ rfl rfl rfl), (by (with_reducible repeat (first | refine blk_drewN ?_ _ | refine blk_drew ?_ | refine blk_alloc ?_ _)); exact BK194.out), (by (with_reducible repeat (first | refine blk_drewN ?_ _ | refine blk_drew ?_ | refine blk_alloc ?_ _)); exact BK195.out), (by repeat (first | (with_reducible first | exact HB.out | apply below_alloc | apply pw_below_drewN | apply below_drew1 | refine below_set ?_ GE194.out | refine below_set ?_ GE195.out) | exact HB.out)), fun _ h1_ => absurd ((hon 3 (by kernel_rfl)).symm.trans h1_) (by decide), fun _ h1_ => absurd ((hon 6 (by kernel_rfl)).symm.trans h1_) (by decide), fun _ => (by (with_reducible repeat (first | apply Kd.R_alloc | apply Kd.R_drewN | apply Kd.R_drew)); exact HO207.out), fun _ h1_ => absurd ((hon 10 (by kernel_rfl)).symm.trans h1_) (by decide), fun _ h1_ => absurd ((up_self b 13).symm.trans h1_) (by decide), fun _ => (by (with_reducible repeat (first | apply Kd.R_alloc | apply Kd.R_drewN | apply Kd.R_drew)); exact HO216.out), z_BK217, Q_GW217, Q_GE217, Q_NB194_217, Q_NB217_194, Q_NB195_217, Q_NB217_195, fun h0_ => absurd ((hoff 16 (by kernel_rfl)).symm.trans h0_) (by decide), fun h0_ => absurd ((hoff 14 (by kernel_rfl)).symm.trans h0_) (by decide), Q_X15_⟩
                    refine steps_cons ?_ ?_
                    · rintro b a w' ⟨v200, v203, v206, v209, v212, v215, gb217, m14_, m15_, ha, Q_BK194, Q_BK195, Q_HB, Q_HO201, Q_HO204, Q_HO207, Q_HO210, Q_HO213, Q_HO216, Q_BK217, Q_GW217, Q_GE217, Q_NB194_217, Q_NB217_194, Q_NB195_217, Q_NB217_195, Q_BK217_e16, Q_X14_, Q_X15_⟩ hb_ hon hoff
                      refine ⟨_, rfl, fun K hK => ?_⟩
                      have e30 : a.tmps[30]? = some (v206) := by rw [ha]; exact putSel_on (e := (6, 30, v206)) 4 rfl rfl (hon 6 (by kernel_rfl)) rfl
                      have e37 : a.tmps[37]? = some (v215) := by rw [ha]; exact putSel_on (e := (13, 37, v215)) 9 rfl rfl (hon 13 (by kernel_rfl)) rfl
                      replace ha := Aside0.mk ha
                      have BK194 := Aside0.mk Q_BK194
                      have BK195 := Aside0.mk Q_BK195
                      have HB := Aside0.mk Q_HB
                      have HO207 := Aside0.mk (Q_HO207 (hon 6 (by kernel_rfl)))
                      have HO216 := Aside0.mk (Q_HO216 (hon 13 (by kernel_rfl)))
                      obtain ⟨Ao14_0, co14_0, eo_⟩ := Kd.R_slice HO207.out
                      subst eo_
                      obtain ⟨Ao14_1, co14_1, eo_⟩ := Kd.R_slice HO216.out
                      subst eo_
                      refine value_ (w1 := w') (v := .agg #[.bool false, .slice Ao14_0 y205.length co14_0, .slice Ao14_1 y214.length co14_1]) (by rfl) rfl ?_ ?_
                      · go_simp
                        (try simp only [i64_w])
                        try rfl
                      refine hK.out _ _ ⟨v200, v203, .slice Ao14_0 y205.length co14_0, v209, v212, .slice Ao14_1 y214.length co14_1, gb217, (.agg #[.bool false, .slice Ao14_0 y205.length co14_0, .slice Ao14_1 y214.length co14_1]), m15_, (by rw [ha.out]; exact putSel_upk 10 hb_ rfl rfl rfl), Q_BK194, Q_BK195, Q_HB, fun _ h1_ => absurd ((hon 3 (by kernel_rfl)).symm.trans h1_) (by decide), fun _ h1_ => absurd ((hon 6 (by kernel_rfl)).symm.trans h1_) (by decide), Q_HO207, fun _ h1_ => absurd ((hon 10 (by kernel_rfl)).symm.trans h1_) (by decide), fun _ h1_ => absurd ((hon 13 (by kernel_rfl)).symm.trans h1_) (by decide), Q_HO216, Q_BK217, Q_GW217, Q_GE217, Q_NB194_217, Q_NB217_194, Q_NB195_217, Q_NB217_195, fun h0_ => absurd ((hoff 16 (by kernel_rfl)).symm.trans h0_) (by decide), fun _ => rfl, Q_X15_⟩
                    refine steps_cons ?_ ?_
                    · rintro b a w' ⟨v200, v203, v206, v209, v212, v215, gb217, m14_, m15_, ha, Q_BK194, Q_BK195, Q_HB, Q_HO201, Q_HO204, Q_HO207, Q_HO210, Q_HO213, Q_HO216, Q_BK217, Q_GW217, Q_GE217, Q_NB194_217, Q_NB217_194, Q_NB195_217, Q_NB217_195, Q_BK217_e16, Q_X14_, Q_X15_⟩ hb_ hon hoff
                      refine ⟨_, rfl, fun K hK => ?_⟩
                      replace ha := Aside0.mk ha
                      have BK194 := Aside0.mk Q_BK194
                      have BK195 := Aside0.mk Q_BK195
                      have HB := Aside0.mk Q_HB
                      refine box_step ?hg (N := 11) ?hd (cs := #[.bool false, .slice none 0 0, .slice none 0 0]) (t := 26) ?hr ?_; (case hd => rfl); (case hg => rfl); (case hr => first | (go_simp; done) | (go_simp; rfl))
                      intro gb217 hg w32 hbox hb
                      have n0_ := Aside0.mk (blk_below (g := gb194) (o := .cells #[.bool a0_0, .slice A0_1 l0_1.length c0_1, .slice A0_2 l0_2.length c0_2] 26 (0, 0)) (by (with_reducible repeat (first | refine blk_drewN ?_ _ | refine blk_drew ?_ | refine blk_alloc ?_ _)); exact BK194.out) hb)
                      have n1_ := Aside0.mk (blk_below (g := gb195) (o := .cells #[.bool a1_0, .slice A1_1 l1_1.length c1_1, .slice A1_2 l1_2.length c1_2] 26 (0, 0)) (by (with_reducible repeat (first | refine blk_drewN ?_ _ | refine blk_drew ?_ | refine blk_alloc ?_ _)); exact BK195.out) hb)
                      have n2_ := Aside0.mk (below_step (by repeat (first | (with_reducible first | exact HB.out | apply below_alloc | apply pw_below_drewN | apply below_drew1 | refine below_set ?_ GE194.out | refine below_set ?_ GE195.out) | exact HB.out)) hb)
                      have n3_ := Aside0.mk (hbox)
                      have n4_ := Aside0.mk ((by rw [hg]; exact (below_size (by repeat (first | (with_reducible first | exact HB.out | apply below_alloc | apply pw_below_drewN | apply below_drew1 | refine below_set ?_ GE194.out | refine below_set ?_ GE195.out) | exact HB.out))) : w.heap.size ≤ gb217))
                      have n5_ := Aside0.mk ((by rw [hg]; exact (below_size (by repeat (first | (with_reducible first | exact HB.out | apply below_alloc | apply pw_below_drewN | apply below_drew1 | refine below_set ?_ GE194.out | refine below_set ?_ GE195.out) | exact HB.out))) : w.heap.size ≤ gb217))
                      have n6_ := Aside0.mk ((by rw [hg]; exact Nat.ne_of_lt (blk_lt (g := gb194) (o := .cells #[.bool a0_0, .slice A0_1 l0_1.length c0_1, .slice A0_2 l0_2.length c0_2] 26 (0, 0)) (by (with_reducible repeat (first | refine blk_drewN ?_ _ | refine blk_drew ?_ | refine blk_alloc ?_ _)); exact BK194.out)) : gb194 ≠ gb217))
                      have n7_ := Aside0.mk ((by rw [hg]; exact Nat.ne_of_gt (blk_lt (g := gb194) (o := .cells #[.bool a0_0, .slice A0_1 l0_1.length c0_1, .slice A0_2 l0_2.length c0_2] 26 (0, 0)) (by (with_reducible repeat (first | refine blk_drewN ?_ _ | refine blk_drew ?_ | refine blk_alloc ?_ _)); exact BK194.out)) : gb217 ≠ gb194))
                      have n8_ := Aside0.mk ((by rw [hg]; exact Nat.ne_of_lt (blk_lt (g := gb195) (o := .cells #[.bool a1_0, .slice A1_1 l1_1.length c1_1, .slice A1_2 l1_2.length c1_2] 26 (0, 0)) (by (with_reducible repeat (first | refine blk_drewN ?_ _ | refine blk_drew ?_ | refine blk_alloc ?_ _)); exact BK195.out)) : gb195 ≠ gb217))
                      have n9_ := Aside0.mk ((by rw [hg]; exact Nat.ne_of_gt (blk_lt (g := gb195) (o := .cells #[.bool a1_0, .slice A1_1 l1_1.length c1_1, .slice A1_2 l1_2.length c1_2] 26 (0, 0)) (by (with_reducible repeat (first | refine blk_drewN ?_ _ | refine blk_drew ?_ | refine blk_alloc ?_ _)); exact BK195.out)) : gb217 ≠ gb195))
                      have z_HO201 := fun (h0_ : b 0 = true) (h1_ : b 3 = false) => (show Kd.R k35 35 w32 w.heap.size (fun _ => True) v200 y199 from by first | exact (Kd.R_below (by (with_reducible repeat (first | apply Kd.R_alloc | apply Kd.R_drewN | apply Kd.R_drew)); exact (Q_HO201 h0_ h1_)) hb) | exact Kd.R_mono (Kd.R_below (by (with_reducible repeat (first | apply Kd.R_alloc | apply Kd.R_drewN | apply Kd.R_drew)); exact (Q_HO201 h0_ h1_)) hb) (fun _ h_ => by first | trivial | exact h_ | exact h_.1))
                      have z_HO204 := fun (h0_ : b 3 = true) (h1_ : b 6 = false) => (show Kd.R k35 35 w32 w.heap.size (fun _ => True) v203 y202 from by first | exact (Kd.R_below (by (with_reducible repeat (first | apply Kd.R_alloc | apply Kd.R_drewN | apply Kd.R_drew)); exact (Q_HO204 h0_ h1_)) hb) | exact Kd.R_mono (Kd.R_below (by (with_reducible repeat (first | apply Kd.R_alloc | apply Kd.R_drewN | apply Kd.R_drew)); exact (Q_HO204 h0_ h1_)) hb) (fun _ h_ => by first | trivial | exact h_ | exact h_.1))
                      have z_HO207 := fun (h0_ : b 6 = true) => (show Kd.R k35 35 w32 w.heap.size (fun _ => True) v206 y205 from by first | exact (Kd.R_below (by (with_reducible repeat (first | apply Kd.R_alloc | apply Kd.R_drewN | apply Kd.R_drew)); exact (Q_HO207 h0_)) hb) | exact Kd.R_mono (Kd.R_below (by (with_reducible repeat (first | apply Kd.R_alloc | apply Kd.R_drewN | apply Kd.R_drew)); exact (Q_HO207 h0_)) hb) (fun _ h_ => by first | trivial | exact h_ | exact h_.1))
                      have z_HO210 := fun (h0_ : b 7 = true) (h1_ : b 10 = false) => (show Kd.R k37 37 w32 w.heap.size (fun _ => True) v209 y208 from by first | exact (Kd.R_below (by (with_reducible repeat (first | apply Kd.R_alloc | apply Kd.R_drewN | apply Kd.R_drew)); exact (Q_HO210 h0_ h1_)) hb) | exact Kd.R_mono (Kd.R_below (by (with_reducible repeat (first | apply Kd.R_alloc | apply Kd.R_drewN | apply Kd.R_drew)); exact (Q_HO210 h0_ h1_)) hb) (fun _ h_ => by first | trivial | exact h_ | exact h_.1))
                      have z_HO213 := fun (h0_ : b 10 = true) (h1_ : b 13 = false) => (show Kd.R k37 37 w32 w.heap.size (fun _ => True) v212 y211 from by first | exact (Kd.R_below (by (with_reducible repeat (first | apply Kd.R_alloc | apply Kd.R_drewN | apply Kd.R_drew)); exact (Q_HO213 h0_ h1_)) hb) | exact Kd.R_mono (Kd.R_below (by (with_reducible repeat (first | apply Kd.R_alloc | apply Kd.R_drewN | apply Kd.R_drew)); exact (Q_HO213 h0_ h1_)) hb) (fun _ h_ => by first | trivial | exact h_ | exact h_.1))
                      have z_HO216 := fun (h0_ : b 13 = true) => (show Kd.R k37 37 w32 w.heap.size (fun _ => True) v215 y214 from by first | exact (Kd.R_below (by (with_reducible repeat (first | apply Kd.R_alloc | apply Kd.R_drewN | apply Kd.R_drew)); exact (Q_HO216 h0_)) hb) | exact Kd.R_mono (Kd.R_below (by (with_reducible repeat (first | apply Kd.R_alloc | apply Kd.R_drewN | apply Kd.R_drew)); exact (Q_HO216 h0_)) hb) (fun _ h_ => by first | trivial | exact h_ | exact h_.1))
                      clear BK194
                      clear BK195
                      clear HB
                      have BK194 := n0_
                      have BK195 := n1_
                      have HB := n2_
                      have BK217 := n3_
                      have GW217 := n4_
                      have GE217 := n5_
                      have NB194_217 := n6_
                      have NB217_194 := n7_
                      have NB195_217 := n8_
                      have NB217_195 := n9_
                      clear n0_ n1_ n2_ n3_ n4_ n5_ n6_ n7_ n8_ n9_
                      clear hb hbox hg
                      refine hK.out _ _ ⟨v200, v203, v206, v209, v212, v215, gb217, m14_, (.pointer (some ⟨gb217, 0, none⟩)), (by rw [ha.out]; exact putSel_upk 11 hb_ rfl rfl rfl), (by (with_reducible repeat (first | refine blk_drewN ?_ _ | refine blk_drew ?_ | refine blk_alloc ?_ _)); exact BK194.out), (by (with_reducible repeat (first | refine blk_drewN ?_ _ | refine blk_drew ?_ | refine blk_alloc ?_ _)); exact BK195.out), (by repeat (first | (with_reducible first | exact HB.out | apply below_alloc | apply pw_below_drewN | apply below_drew1 | refine below_set ?_ GE194.out | refine below_set ?_ GE195.out | refine below_set ?_ GE217.out) | exact HB.out)), z_HO201, z_HO204, z_HO207, z_HO210, z_HO213, z_HO216, fun _ _ => (by (with_reducible repeat (first | refine blk_drewN ?_ _ | refine blk_drew ?_ | refine blk_alloc ?_ _)); exact BK217.out), fun _ => GW217.out, fun _ => GE217.out, fun _ => NB194_217.out, fun _ => NB217_194.out, fun _ => NB195_217.out, fun _ => NB217_195.out, fun h0_ => absurd ((hoff 16 (by kernel_rfl)).symm.trans h0_) (by decide), Q_X14_, fun _ => rfl⟩
                    refine steps_cons ?_ ?_
                    · rintro b a w' ⟨v200, v203, v206, v209, v212, v215, gb217, m14_, m15_, ha, Q_BK194, Q_BK195, Q_HB, Q_HO201, Q_HO204, Q_HO207, Q_HO210, Q_HO213, Q_HO216, Q_BK217, Q_GW217, Q_GE217, Q_NB194_217, Q_NB217_194, Q_NB195_217, Q_NB217_195, Q_BK217_e16, Q_X14_, Q_X15_⟩ hb_ hon hoff
                      refine ⟨_, rfl, fun K hK => ?_⟩
                      have e11 : a.tmps[11]? = some (m15_) := by rw [ha]; exact putSel_on (e := (15, 11, m15_)) 11 rfl rfl (hon 15 (by kernel_rfl)) rfl
                      rw [Q_X15_ (hon 15 (by kernel_rfl))] at e11
                      have e38 : a.tmps[38]? = some (m14_) := by rw [ha]; exact putSel_on (e := (14, 38, m14_)) 10 rfl rfl (hon 14 (by kernel_rfl)) rfl
                      rw [Q_X14_ (hon 14 (by kernel_rfl))] at e38
                      replace ha := Aside0.mk ha
                      have BK194 := Aside0.mk Q_BK194
                      have BK195 := Aside0.mk Q_BK195
                      have HB := Aside0.mk Q_HB
                      have HO207 := Aside0.mk (Q_HO207 (hon 6 (by kernel_rfl)))
                      have HO216 := Aside0.mk (Q_HO216 (hon 13 (by kernel_rfl)))
                      have BK217 := Aside0.mk (Q_BK217 (hon 15 (by kernel_rfl)) hb_)
                      have GW217 := Aside0.mk (Q_GW217 (hon 15 (by kernel_rfl)))
                      have GE217 := Aside0.mk (Q_GE217 (hon 15 (by kernel_rfl)))
                      have NB194_217 := Aside0.mk (Q_NB194_217 (hon 15 (by kernel_rfl)))
                      have NB217_194 := Aside0.mk (Q_NB217_194 (hon 15 (by kernel_rfl)))
                      have NB195_217 := Aside0.mk (Q_NB195_217 (hon 15 (by kernel_rfl)))
                      have NB217_195 := Aside0.mk (Q_NB217_195 (hon 15 (by kernel_rfl)))
                      obtain ⟨Ao44, co44, eo44⟩ := Kd.R_slice HO216.out
                      (first | subst eo44 | (injection eo44 with f1_ f2_ f3_; have f4_ := f1_.symm; have f5_ := f3_.symm; clear f1_ f2_ f3_; subst f4_; subst f5_))
                      obtain ⟨Ao45, co45, eo45⟩ := Kd.R_slice HO207.out
                      (first | subst eo45 | (injection eo45 with f1_ f2_ f3_; have f4_ := f1_.symm; have f5_ := f3_.symm; clear f1_ f2_ f3_; subst f4_; subst f5_))
                      have hs46 : w'.cell? ⟨gb217, 0, none⟩ = some (.bool false) := (blk_cell BK217.out 0).trans rfl
                      have hfs46 := blk_frozen BK217.out 0
                      have hns46_0 := NB194_217.out
                      have hns46_1 := NB195_217.out
                      have hms46_0 := NB217_194.out
                      have hms46_1 := NB217_195.out
                      have hs47 : w'.cell? ⟨gb217, 1, none⟩ = some (.slice none 0 0) := (blk_cell BK217.out 1).trans rfl
                      have hfs47 := blk_frozen BK217.out 1
                      have hns47_0 := NB194_217.out
                      have hns47_1 := NB195_217.out
                      have hms47_0 := NB217_194.out
                      have hms47_1 := NB217_195.out
                      have hs48 : w'.cell? ⟨gb217, 2, none⟩ = some (.slice none 0 0) := (blk_cell BK217.out 2).trans rfl
                      have hfs48 := blk_frozen BK217.out 2
                      have hns48_0 := NB194_217.out
                      have hns48_1 := NB195_217.out
                      have hms48_0 := NB217_194.out
                      have hms48_1 := NB217_195.out
                      refine skip_ (w1 := ?_) (by rfl) rfl ?_ ?_
                      rotate_left
                      · go_simp
                        rfl
                      refine hK.out _ _ ⟨v200, v203, .slice Ao45 y205.length co45, v209, v212, .slice Ao44 y214.length co44, gb217, m14_, m15_, (by rw [ha.out]; exact putSel_none (v := undef) rfl), (by (with_reducible repeat (first | refine blk_drewN ?_ _ | refine blk_drew ?_ | refine blk_alloc ?_ _)); refine blk_far ?_ NB194_217.out _; (with_reducible repeat (first | refine blk_drewN ?_ _ | refine blk_drew ?_ | refine blk_alloc ?_ _)); refine blk_far ?_ NB194_217.out _; (with_reducible repeat (first | refine blk_drewN ?_ _ | refine blk_drew ?_ | refine blk_alloc ?_ _)); refine blk_far ?_ NB194_217.out _; (with_reducible repeat (first | refine blk_drewN ?_ _ | refine blk_drew ?_ | refine blk_alloc ?_ _)); exact BK194.out), (by (with_reducible repeat (first | refine blk_drewN ?_ _ | refine blk_drew ?_ | refine blk_alloc ?_ _)); refine blk_far ?_ NB195_217.out _; (with_reducible repeat (first | refine blk_drewN ?_ _ | refine blk_drew ?_ | refine blk_alloc ?_ _)); refine blk_far ?_ NB195_217.out _; (with_reducible repeat (first | refine blk_drewN ?_ _ | refine blk_drew ?_ | refine blk_alloc ?_ _)); refine blk_far ?_ NB195_217.out _; (with_reducible repeat (first | refine blk_drewN ?_ _ | refine blk_drew ?_ | refine blk_alloc ?_ _)); exact BK195.out), (by repeat (first | (with_reducible first | exact HB.out | apply below_alloc | apply pw_below_drewN | apply below_drew1 | refine below_set ?_ GE194.out | refine below_set ?_ GE195.out | refine below_set ?_ GE217.out) | exact HB.out)), fun _ h1_ => absurd ((hon 3 (by kernel_rfl)).symm.trans h1_) (by decide), fun _ h1_ => absurd ((hon 6 (by kernel_rfl)).symm.trans h1_) (by decide), fun _ => (by (with_reducible repeat (first | apply Kd.R_alloc | apply Kd.R_drewN | apply Kd.R_drew)); exact Kd.R_mono (Kd.R_far (p := ⟨gb217, 2, none⟩) (Kd.R_far (p := ⟨gb217, 1, none⟩) (Kd.R_far (p := ⟨gb217, 0, none⟩) (Kd.R_types HO207.out BK217.out (by decide)) (fun _ hk => hk.2) (.bool false)) (fun _ hk => hk.2) (.slice Ao45 y205.length co45)) (fun _ hk => hk.2) (.slice Ao44 y214.length co44)) (fun _ hk => trivial)), fun _ h1_ => absurd ((hon 10 (by kernel_rfl)).symm.trans h1_) (by decide), fun _ h1_ => absurd ((hon 13 (by kernel_rfl)).symm.trans h1_) (by decide), fun _ => (by (with_reducible repeat (first | apply Kd.R_alloc | apply Kd.R_drewN | apply Kd.R_drew)); exact Kd.R_mono (Kd.R_far (p := ⟨gb217, 2, none⟩) (Kd.R_far (p := ⟨gb217, 1, none⟩) (Kd.R_far (p := ⟨gb217, 0, none⟩) (Kd.R_types HO216.out BK217.out (by decide)) (fun _ hk => hk.2) (.bool false)) (fun _ hk => hk.2) (.slice Ao45 y205.length co45)) (fun _ hk => hk.2) (.slice Ao44 y214.length co44)) (fun _ hk => trivial)), fun _ h1_ => absurd ((up_self b 16).symm.trans h1_) (by decide), fun _ => GW217.out, fun _ => GE217.out, fun _ => NB194_217.out, fun _ => NB217_194.out, fun _ => NB195_217.out, fun _ => NB217_195.out, fun _ => (by (with_reducible repeat (first | refine blk_drewN ?_ _ | refine blk_drew ?_ | refine blk_alloc ?_ _)); refine blk_put (cs := #[.bool false, .slice Ao45 y205.length co45, .slice none 0 0]) ?_ 2 _ rfl; (with_reducible repeat (first | refine blk_drewN ?_ _ | refine blk_drew ?_ | refine blk_alloc ?_ _)); refine blk_put (cs := #[.bool false, .slice none 0 0, .slice none 0 0]) ?_ 1 _ rfl; (with_reducible repeat (first | refine blk_drewN ?_ _ | refine blk_drew ?_ | refine blk_alloc ?_ _)); refine blk_put (cs := #[.bool false, .slice none 0 0, .slice none 0 0]) ?_ 0 _ rfl; (with_reducible repeat (first | refine blk_drewN ?_ _ | refine blk_drew ?_ | refine blk_alloc ?_ _)); exact BK217.out), Q_X14_, Q_X15_⟩
                    exact steps_nil
                  rintro b a w46 hall ⟨v200, v203, v206, v209, v212, v215, gb217, m14_, m15_, ha, Q_BK194, Q_BK195, Q_HB, Q_HO201, Q_HO204, Q_HO207, Q_HO210, Q_HO213, Q_HO216, Q_BK217, Q_GW217, Q_GE217, Q_NB194_217, Q_NB217_194, Q_NB195_217, Q_NB217_195, Q_BK217_e16, Q_X14_, Q_X15_⟩
                  clear BK194 BK195 HB
                  have hb0_ := hall 0 (by kernel_rfl)
                  have hb2_ := hall 2 (by kernel_rfl)
                  have hb3_ := hall 3 (by kernel_rfl)
                  have hb5_ := hall 5 (by kernel_rfl)
                  have hb6_ := hall 6 (by kernel_rfl)
                  have hb7_ := hall 7 (by kernel_rfl)
                  have hb9_ := hall 9 (by kernel_rfl)
                  have hb10_ := hall 10 (by kernel_rfl)
                  have hb12_ := hall 12 (by kernel_rfl)
                  have hb13_ := hall 13 (by kernel_rfl)
                  have hb14_ := hall 14 (by kernel_rfl)
                  have hb15_ := hall 15 (by kernel_rfl)
                  have hb16_ := hall 16 (by kernel_rfl)
                  subst ha
                  obtain rfl := Q_X14_ hb14_
                  obtain rfl := Q_X15_ hb15_
                  simp only [putSel, hb0_, hb2_, hb3_, hb5_, hb6_, hb7_, hb9_, hb10_, hb12_, hb13_, hb14_, hb15_, hb16_, if_true, Act.put, List.setIfInBounds_toArray, List.set_cons_zero, List.set_cons_succ]
                  have BK194 := Aside0.mk Q_BK194
                  clear Q_BK194
                  have BK195 := Aside0.mk Q_BK195
                  clear Q_BK195
                  have HB := Aside0.mk Q_HB
                  clear Q_HB
                  clear Q_HO201
                  clear Q_HO204
                  have HO207 := Aside0.mk (Q_HO207 hb6_)
                  clear Q_HO207
                  clear Q_HO210
                  clear Q_HO213
                  have HO216 := Aside0.mk (Q_HO216 hb13_)
                  clear Q_HO216
                  clear Q_BK217
                  have GW217 := Aside0.mk (Q_GW217 hb15_)
                  clear Q_GW217
                  have GE217 := Aside0.mk (Q_GE217 hb15_)
                  clear Q_GE217
                  have NB194_217 := Aside0.mk (Q_NB194_217 hb15_)
                  clear Q_NB194_217
                  have NB217_194 := Aside0.mk (Q_NB217_194 hb15_)
                  clear Q_NB217_194
                  have NB195_217 := Aside0.mk (Q_NB195_217 hb15_)
                  clear Q_NB195_217
                  have NB217_195 := Aside0.mk (Q_NB217_195 hb15_)
                  clear Q_NB217_195
                  have BK217 := Aside0.mk (Q_BK217_e16 hb16_)
                  clear Q_BK217_e16
                  clear hall hb0_ hb2_ hb3_ hb5_ hb6_ hb7_ hb9_ hb10_ hb12_ hb13_ hb14_ hb15_ hb16_
                  obtain ⟨Ao47, co47, eo47⟩ := Kd.R_slice HO216.out
                  (first | subst eo47 | (injection eo47 with f1_ f2_ f3_; have f4_ := f1_.symm; have f5_ := f3_.symm; clear f1_ f2_ f3_; subst f4_; subst f5_))
                  obtain ⟨Ao48, co48, eo48⟩ := Kd.R_slice HO207.out
                  (first | subst eo48 | (injection eo48 with f1_ f2_ f3_; have f4_ := f1_.symm; have f5_ := f3_.symm; clear f1_ f2_ f3_; subst f4_; subst f5_))
                  try go_wp2
                  have n0_ := Aside0.mk (Kd.R_drew HO207.out)
                  have n1_ := Aside0.mk (Kd.R_drew HO216.out)
                  have n2_ := Aside0.mk (blk_drew BK194.out)
                  have n3_ := Aside0.mk (blk_drew BK195.out)
                  have n4_ := Aside0.mk (blk_drew BK217.out)
                  have n5_ := Aside0.mk (below_drew1 HB.out)
                  clear HO207
                  clear HO216
                  clear BK194
                  clear BK195
                  clear BK217
                  clear HB
                  have HO207 := n0_
                  have HO216 := n1_
                  have BK194 := n2_
                  have BK195 := n3_
                  have BK217 := n4_
                  have HB := n5_
                  clear n0_ n1_ n2_ n3_ n4_ n5_
                  refine start_ (n := 24) (S := fun w' => w'.cell? ⟨gb194, 0, none⟩ = some (.bool a0_0) ∧ w'.cell? ⟨gb194, 1, none⟩ = some (.slice A0_1 l0_1.length c0_1) ∧ w'.cell? ⟨gb194, 2, none⟩ = some (.slice A0_2 l0_2.length c0_2) ∧ w'.cell? ⟨gb195, 0, none⟩ = some (.bool a1_0) ∧ w'.cell? ⟨gb195, 1, none⟩ = some (.slice A1_1 l1_1.length c1_1) ∧ w'.cell? ⟨gb195, 2, none⟩ = some (.slice A1_2 l1_2.length c1_2) ∧ w'.cell? ⟨gb217, 0, none⟩ = some (.bool false) ∧ w'.cell? ⟨gb217, 1, none⟩ = some (.slice Ao48 y205.length co48) ∧ w'.cell? ⟨gb217, 2, none⟩ = some (.slice Ao47 y214.length co47)) (ds := []) #[false, false, false, false, false, false, false, false, false, false, false, false, false, false, false, false, false, false, false, false, false, false, false, false] (by kernel_rfl) rfl rfl ⟨(blk_cell BK194.out 0).trans rfl, (blk_cell BK194.out 1).trans rfl, (blk_cell BK194.out 2).trans rfl, (blk_cell BK195.out 0).trans rfl, (blk_cell BK195.out 1).trans rfl, (blk_cell BK195.out 2).trans rfl, (blk_cell BK217.out 0).trans rfl, (blk_cell BK217.out 1).trans rfl, (blk_cell BK217.out 2).trans rfl⟩ (fun hHeld => ?_); refine with_tabW tincturelaw7_PolicyParts.tab6 tincturelaw7_PolicyParts.bits6 (fun HT_ HW_ => ?_)
                  generalize w46.drew = w49 at HO207 HO216 BK194 BK195 BK217 HB hHeld ⊢
                  refine pure_ (i := 1) (N := some 40) (v := ?_) (a' := ?_) #[false, true, false, false, false, false, false, false, false, false, false, false, false, false, false, false, false, false, false, false, false, false, false, false] rfl rfl (any_of HT_.out (by kernel_rfl)) (fun _ _ _ h => h) (Or.inl ⟨by rfl, ?_⟩) ?_ ?_
                  rotate_left
                  · intro w'
                    go_simp
                    with_reducible rfl
                  rotate_left
                  · simp only [Act.put, List.setIfInBounds_toArray, List.set_cons_zero, List.set_cons_succ, i64_w, i32_w]
                    rfl
                  refine pure_ (i := 2) (N := some 41) (v := ?_) (a' := ?_) #[false, true, true, false, false, false, false, false, false, false, false, false, false, false, false, false, false, false, false, false, false, false, false, false] rfl rfl (any_of HT_.out (by kernel_rfl)) (fun _ _ _ h => h) (Or.inl ⟨by rfl, ?_⟩) ?_ ?_
                  rotate_left
                  · intro w'
                    go_simp
                    with_reducible rfl
                  rotate_left
                  · simp only [Act.put, List.setIfInBounds_toArray, List.set_cons_zero, List.set_cons_succ, i64_w, i32_w]
                    rfl
                  refine pure_ (i := 3) (N := some 42) (v := ?_) (a' := ?_) #[false, true, true, true, false, false, false, false, false, false, false, false, false, false, false, false, false, false, false, false, false, false, false, false] rfl rfl (any_of HT_.out (by kernel_rfl)) (fun _ _ _ h => h) (Or.inl ⟨by rfl, ?_⟩) ?_ ?_
                  rotate_left
                  · intro w'
                    go_simp
                    with_reducible rfl
                  rotate_left
                  · simp only [Act.put, List.setIfInBounds_toArray, List.set_cons_zero, List.set_cons_succ, i64_w, i32_w]
                    rfl
                  refine pure_ (i := 4) (N := some 43) (v := ?_) (a' := ?_) #[false, true, true, true, true, false, false, false, false, false, false, false, false, false, false, false, false, false, false, false, false, false, false, false] rfl rfl (any_of HT_.out (by kernel_rfl)) (fun _ _ _ h => h) (Or.inl ⟨by rfl, ?_⟩) ?_ ?_
                  rotate_left
                  · intro w'
                    go_simp
                    with_reducible rfl
                  rotate_left
                  · simp only [Act.put, List.setIfInBounds_toArray, List.set_cons_zero, List.set_cons_succ, i64_w, i32_w]
                    rfl
                  refine pure_ (i := 5) (N := some 44) (v := ?_) (a' := ?_) #[false, true, true, true, true, true, false, false, false, false, false, false, false, false, false, false, false, false, false, false, false, false, false, false] rfl rfl (any_of HT_.out (by kernel_rfl)) (fun _ _ _ h => h) (Or.inl ⟨by rfl, ?_⟩) ?_ ?_
                  rotate_left
                  · intro w'
                    go_simp
                    with_reducible rfl
                  rotate_left
                  · simp only [Act.put, List.setIfInBounds_toArray, List.set_cons_zero, List.set_cons_succ, i64_w, i32_w]
                    rfl
                  refine pure_ (i := 8) (N := some 47) (v := ?_) (a' := ?_) #[false, true, true, true, true, true, false, false, true, false, false, false, false, false, false, false, false, false, false, false, false, false, false, false] rfl rfl (any_of HT_.out (by kernel_rfl)) (fun _ _ _ h => h) (Or.inl ⟨by rfl, ?_⟩) ?_ ?_
                  rotate_left
                  · intro w'
                    go_simp
                    with_reducible rfl
                  rotate_left
                  · simp only [Act.put, List.setIfInBounds_toArray, List.set_cons_zero, List.set_cons_succ, i64_w, i32_w]
                    rfl
                  refine pure_ (i := 9) (N := some 48) (v := ?_) (a' := ?_) #[false, true, true, true, true, true, false, false, true, true, false, false, false, false, false, false, false, false, false, false, false, false, false, false] rfl rfl (any_of HT_.out (by kernel_rfl)) (fun _ _ _ h => h) (Or.inl ⟨by rfl, ?_⟩) ?_ ?_
                  rotate_left
                  · intro w'
                    go_simp
                    with_reducible rfl
                  rotate_left
                  · simp only [Act.put, List.setIfInBounds_toArray, List.set_cons_zero, List.set_cons_succ, i64_w, i32_w]
                    rfl
                  refine pure_ (i := 10) (N := some 49) (v := ?_) (a' := ?_) #[false, true, true, true, true, true, false, false, true, true, true, false, false, false, false, false, false, false, false, false, false, false, false, false] rfl rfl (any_of HT_.out (by kernel_rfl)) (fun _ _ _ h => h) (Or.inl ⟨by rfl, ?_⟩) ?_ ?_
                  rotate_left
                  · intro w'
                    go_simp
                    with_reducible rfl
                  rotate_left
                  · simp only [Act.put, List.setIfInBounds_toArray, List.set_cons_zero, List.set_cons_succ, i64_w, i32_w]
                    rfl
                  refine pure_ (i := 11) (N := some 50) (v := ?_) (a' := ?_) #[false, true, true, true, true, true, false, false, true, true, true, true, false, false, false, false, false, false, false, false, false, false, false, false] rfl rfl (any_of HT_.out (by kernel_rfl)) (fun _ _ _ h => h) (Or.inl ⟨by rfl, ?_⟩) ?_ ?_
                  rotate_left
                  · intro w'
                    go_simp
                    with_reducible rfl
                  rotate_left
                  · simp only [Act.put, List.setIfInBounds_toArray, List.set_cons_zero, List.set_cons_succ, i64_w, i32_w]
                    rfl
                  refine pure_ (i := 12) (N := some 51) (v := ?_) (a' := ?_) #[false, true, true, true, true, true, false, false, true, true, true, true, true, false, false, false, false, false, false, false, false, false, false, false] rfl rfl (any_of HT_.out (by kernel_rfl)) (fun _ _ _ h => h) (Or.inl ⟨by rfl, ?_⟩) ?_ ?_
                  rotate_left
                  · intro w'
                    go_simp
                    with_reducible rfl
                  rotate_left
                  · simp only [Act.put, List.setIfInBounds_toArray, List.set_cons_zero, List.set_cons_succ, i64_w, i32_w]
                    rfl
                  refine pure_ (i := 15) (N := some 54) (v := ?_) (a' := ?_) #[false, true, true, true, true, true, false, false, true, true, true, true, true, false, false, true, false, false, false, false, false, false, false, false] rfl rfl (any_of HT_.out (by kernel_rfl)) (fun _ _ _ h => h) (Or.inl ⟨by rfl, ?_⟩) ?_ ?_
                  rotate_left
                  · intro w'
                    go_simp
                    with_reducible rfl
                  rotate_left
                  · simp only [Act.put, List.setIfInBounds_toArray, List.set_cons_zero, List.set_cons_succ, i64_w, i32_w]
                    rfl
                  refine pure_ (i := 16) (N := some 55) (v := ?_) (a' := ?_) #[false, true, true, true, true, true, false, false, true, true, true, true, true, false, false, true, true, false, false, false, false, false, false, false] rfl rfl (any_of HT_.out (by kernel_rfl)) (fun _ _ _ h => h) (Or.inl ⟨by rfl, ?_⟩) ?_ ?_
                  rotate_left
                  · intro w'
                    go_simp
                    with_reducible rfl
                  rotate_left
                  · simp only [Act.put, List.setIfInBounds_toArray, List.set_cons_zero, List.set_cons_succ, i64_w, i32_w]
                    rfl
                  refine pure_ (i := 17) (N := some 56) (v := ?_) (a' := ?_) #[false, true, true, true, true, true, false, false, true, true, true, true, true, false, false, true, true, true, false, false, false, false, false, false] rfl rfl (any_of HT_.out (by kernel_rfl)) (fun _ _ _ h => h) (Or.inl ⟨by rfl, ?_⟩) ?_ ?_
                  rotate_left
                  · intro w'
                    go_simp
                    with_reducible rfl
                  rotate_left
                  · simp only [Act.put, List.setIfInBounds_toArray, List.set_cons_zero, List.set_cons_succ, i64_w, i32_w]
                    rfl
                  refine pure_ (i := 18) (N := some 57) (v := ?_) (a' := ?_) #[false, true, true, true, true, true, false, false, true, true, true, true, true, false, false, true, true, true, true, false, false, false, false, false] rfl rfl (any_of HT_.out (by kernel_rfl)) (fun _ _ _ h => h) (Or.inl ⟨by rfl, ?_⟩) ?_ ?_
                  rotate_left
                  · intro w'
                    go_simp
                    with_reducible rfl
                  rotate_left
                  · simp only [Act.put, List.setIfInBounds_toArray, List.set_cons_zero, List.set_cons_succ, i64_w, i32_w]
                    rfl
                  refine pure_ (i := 19) (N := some 58) (v := ?_) (a' := ?_) #[false, true, true, true, true, true, false, false, true, true, true, true, true, false, false, true, true, true, true, true, false, false, false, false] rfl rfl (any_of HT_.out (by kernel_rfl)) (fun _ _ _ h => h) (Or.inl ⟨by rfl, ?_⟩) ?_ ?_
                  rotate_left
                  · intro w'
                    go_simp
                    with_reducible rfl
                  rotate_left
                  · simp only [Act.put, List.setIfInBounds_toArray, List.set_cons_zero, List.set_cons_succ, i64_w, i32_w]
                    rfl
                  refine take_ (i := 0) (N := some 39) (v := ?_) (a' := ?_) #[true, true, true, true, true, true, false, false, true, true, true, true, true, false, false, true, true, true, true, true, false, false, false, false] rfl rfl (take_ofW HT_.out HW_.out (by kernel_rfl)) (fun _ _ _ h => h) (Or.inl ⟨by rfl, ?_⟩) hHeld ?_ ?_
                  rotate_left
                  · rintro w' ⟨s0, s1, s2, s3, s4, s5, s6, s7, s8⟩
                    go_simp
                    with_reducible rfl
                  rotate_left
                  · simp only [Act.put, List.setIfInBounds_toArray, List.set_cons_zero, List.set_cons_succ, i64_w, i32_w]
                    rfl
                  refine take_ (i := 7) (N := some 46) (v := ?_) (a' := ?_) #[true, true, true, true, true, true, false, true, true, true, true, true, true, false, false, true, true, true, true, true, false, false, false, false] rfl rfl (take_ofW HT_.out HW_.out (by kernel_rfl)) (fun _ _ _ h => h) (Or.inl ⟨by rfl, ?_⟩) hHeld ?_ ?_
                  rotate_left
                  · rintro w' ⟨s0, s1, s2, s3, s4, s5, s6, s7, s8⟩
                    go_simp
                    with_reducible rfl
                  rotate_left
                  · simp only [Act.put, List.setIfInBounds_toArray, List.set_cons_zero, List.set_cons_succ, i64_w, i32_w]
                    rfl
                  refine take_ (i := 14) (N := some 53) (v := ?_) (a' := ?_) #[true, true, true, true, true, true, false, true, true, true, true, true, true, false, true, true, true, true, true, true, false, false, false, false] rfl rfl (take_ofW HT_.out HW_.out (by kernel_rfl)) (fun _ _ _ h => h) (Or.inl ⟨by rfl, ?_⟩) hHeld ?_ ?_
                  rotate_left
                  · rintro w' ⟨s0, s1, s2, s3, s4, s5, s6, s7, s8⟩
                    go_simp
                    with_reducible rfl
                  rotate_left
                  · simp only [Act.put, List.setIfInBounds_toArray, List.set_cons_zero, List.set_cons_succ, i64_w, i32_w]
                    rfl
                  refine one_ (i := 6) (N := some 45) #[true, true, true, true, true, true, true, true, true, true, true, true, true, false, true, true, true, true, true, true, false, false, false, false] rfl rfl (one_of HT_.out (by kernel_rfl)) (by decide) (fun K hK => ?_)
                  refine goes_ Try.func14 (by kernel_rfl) rfl #[.agg #[.bool a0_0, .slice A0_1 l0_1.length c0_1, .slice A0_2 l0_2.length c0_2], .int .i64 a2, .int .i64 (wrap64 (Go.bits .and .u32 a3 7)), .int .u8 a4] (by rfl) rfl rfl (by (try simp only [List.map_toArray, List.map_cons, List.map_nil]); first | done | rfl | (simp only [List.length_drop, List.length_take]; rfl)) ?_
                  with_reducible refine (policy_Policy_Hits.calls kj7 a0_0 _ _ l0_1 _ _ l0_2 a2 (wrap64 (Go.bits .and .u32 a3 7)) a4 t218 _ ?side1 ?side2 ?side3 ?side4 A28.out).mono ?_
                  (case side1 => repeat (first | exact (Kd.C_below HR0_1.out HB.out) | (with_reducible refine Kd.C_alloc ?_ _) | (with_reducible refine Kd.C_drewN ?_ _) | (with_reducible refine Kd.C_drew ?_)))
                  (case side2 => exact HC0_1.out)
                  (case side3 => repeat (first | exact (Kd.C_below HR0_2.out HB.out) | (with_reducible refine Kd.C_alloc ?_ _) | (with_reducible refine Kd.C_drewN ?_ _) | (with_reducible refine Kd.C_drew ?_)))
                  (case side4 => exact HC0_2.out)
                  rintro e w50 ⟨v219, rfl, ho0, hb⟩
                  refine ⟨_, rfl, ?_⟩
                  have n0_ := Aside0.mk (Kd.R_below (by (with_reducible repeat (first | apply Kd.R_alloc | apply Kd.R_drewN | apply Kd.R_drew)); exact HO207.out) hb)
                  have n1_ := Aside0.mk (Kd.R_below (by (with_reducible repeat (first | apply Kd.R_alloc | apply Kd.R_drewN | apply Kd.R_drew)); exact HO216.out) hb)
                  have n2_ := Aside0.mk (Kd.R_lower ho0 (below_size (by repeat (first | (with_reducible first | exact HB.out | apply below_alloc | apply pw_below_drewN | apply below_drew1 | refine below_set ?_ GE194.out | refine below_set ?_ GE195.out | refine below_set ?_ GE217.out) | exact HB.out))))
                  have n3_ := Aside0.mk (blk_below (g := gb194) (o := .cells #[.bool a0_0, .slice A0_1 l0_1.length c0_1, .slice A0_2 l0_2.length c0_2] 26 (0, 0)) (by (with_reducible repeat (first | refine blk_drewN ?_ _ | refine blk_drew ?_ | refine blk_alloc ?_ _)); exact BK194.out) hb)
                  have n4_ := Aside0.mk (blk_below (g := gb195) (o := .cells #[.bool a1_0, .slice A1_1 l1_1.length c1_1, .slice A1_2 l1_2.length c1_2] 26 (0, 0)) (by (with_reducible repeat (first | refine blk_drewN ?_ _ | refine blk_drew ?_ | refine blk_alloc ?_ _)); exact BK195.out) hb)
                  have n5_ := Aside0.mk (blk_below (g := gb217) (o := .cells #[.bool false, .slice Ao48 y205.length co48, .slice Ao47 y214.length co47] 26 (0, 0)) (by (with_reducible repeat (first | refine blk_drewN ?_ _ | refine blk_drew ?_ | refine blk_alloc ?_ _)); exact BK217.out) hb)
                  have n6_ := Aside0.mk (below_step (by repeat (first | (with_reducible first | exact HB.out | apply below_alloc | apply pw_below_drewN | apply below_drew1 | refine below_set ?_ GE194.out | refine below_set ?_ GE195.out | refine below_set ?_ GE217.out) | exact HB.out)) hb)
                  clear HO207
                  clear HO216
                  clear BK194
                  clear BK195
                  clear BK217
                  clear HB
                  have HO207 := n0_
                  have HO216 := n1_
                  have HO220 := n2_
                  have BK194 := n3_
                  have BK195 := n4_
                  have BK217 := n5_
                  have HB := n6_
                  clear n0_ n1_ n2_ n3_ n4_ n5_ n6_
                  (try clear hb)
                  (try clear hb2)
                  (try clear hk)
                  (try clear hi)
                  (try clear ho0)
                  refine hK.out _ _ ⟨(blk_cell BK194.out 0).trans rfl, (blk_cell BK194.out 1).trans rfl, (blk_cell BK194.out 2).trans rfl, (blk_cell BK195.out 0).trans rfl, (blk_cell BK195.out 1).trans rfl, (blk_cell BK195.out 2).trans rfl, (blk_cell BK217.out 0).trans rfl, (blk_cell BK217.out 1).trans rfl, (blk_cell BK217.out 2).trans rfl⟩ (fun hHeld => ?_)
                  clear hK K
                  refine norm_ (a' := ?_) ?_ ?_
                  rotate_left
                  · show Act.put _ (some 45) _ = _
                    simp only [Act.put, List.setIfInBounds_toArray, List.set_cons_zero, List.set_cons_succ, i64_w, i32_w]
                    rfl
                  refine one_ (i := 13) (N := some 52) #[true, true, true, true, true, true, true, true, true, true, true, true, true, true, true, true, true, true, true, true, false, false, false, false] rfl rfl (one_of HT_.out (by kernel_rfl)) (by decide) (fun K hK => ?_)
                  refine goes_ Try.func14 (by kernel_rfl) rfl #[.agg #[.bool a1_0, .slice A1_1 l1_1.length c1_1, .slice A1_2 l1_2.length c1_2], .int .i64 a2, .int .i64 (wrap64 (Go.bits .and .u32 a3 7)), .int .u8 a4] (by rfl) rfl rfl (by (try simp only [List.map_toArray, List.map_cons, List.map_nil]); first | done | rfl | (simp only [List.length_drop, List.length_take]; rfl)) ?_
                  with_reducible refine (policy_Policy_Hits.calls kj7 a1_0 _ _ l1_1 _ _ l1_2 a2 (wrap64 (Go.bits .and .u32 a3 7)) a4 t221 _ ?side1 ?side2 ?side3 ?side4 A29.out).mono ?_
                  (case side1 => repeat (first | exact (Kd.C_below HR1_1.out HB.out) | (with_reducible refine Kd.C_alloc ?_ _) | (with_reducible refine Kd.C_drewN ?_ _) | (with_reducible refine Kd.C_drew ?_)))
                  (case side2 => exact HC1_1.out)
                  (case side3 => repeat (first | exact (Kd.C_below HR1_2.out HB.out) | (with_reducible refine Kd.C_alloc ?_ _) | (with_reducible refine Kd.C_drewN ?_ _) | (with_reducible refine Kd.C_drew ?_)))
                  (case side4 => exact HC1_2.out)
                  rintro e w51 ⟨v222, rfl, ho0, hb⟩
                  refine ⟨_, rfl, ?_⟩
                  have n0_ := Aside0.mk (Kd.R_below (by (with_reducible repeat (first | apply Kd.R_alloc | apply Kd.R_drewN | apply Kd.R_drew)); exact HO207.out) hb)
                  have n1_ := Aside0.mk (Kd.R_below (by (with_reducible repeat (first | apply Kd.R_alloc | apply Kd.R_drewN | apply Kd.R_drew)); exact HO216.out) hb)
                  have n2_ := Aside0.mk (Kd.R_elder' (by (with_reducible repeat (first | apply Kd.R_alloc | apply Kd.R_drewN | apply Kd.R_drew)); exact HO220.out) (Kd.R_base ho0) hb)
                  have n3_ := Aside0.mk (Kd.R_lower (Kd.R_new' ho0 (Kd.R_lt (by (with_reducible repeat (first | apply Kd.R_alloc | apply Kd.R_drewN | apply Kd.R_drew)); exact HO220.out))) (below_size (by repeat (first | (with_reducible first | exact HB.out | apply below_alloc | apply pw_below_drewN | apply below_drew1 | refine below_set ?_ GE194.out | refine below_set ?_ GE195.out | refine below_set ?_ GE217.out) | exact HB.out))))
                  have n4_ := Aside0.mk (blk_below (g := gb194) (o := .cells #[.bool a0_0, .slice A0_1 l0_1.length c0_1, .slice A0_2 l0_2.length c0_2] 26 (0, 0)) (by (with_reducible repeat (first | refine blk_drewN ?_ _ | refine blk_drew ?_ | refine blk_alloc ?_ _)); exact BK194.out) hb)
                  have n5_ := Aside0.mk (blk_below (g := gb195) (o := .cells #[.bool a1_0, .slice A1_1 l1_1.length c1_1, .slice A1_2 l1_2.length c1_2] 26 (0, 0)) (by (with_reducible repeat (first | refine blk_drewN ?_ _ | refine blk_drew ?_ | refine blk_alloc ?_ _)); exact BK195.out) hb)
                  have n6_ := Aside0.mk (blk_below (g := gb217) (o := .cells #[.bool false, .slice Ao48 y205.length co48, .slice Ao47 y214.length co47] 26 (0, 0)) (by (with_reducible repeat (first | refine blk_drewN ?_ _ | refine blk_drew ?_ | refine blk_alloc ?_ _)); exact BK217.out) hb)
                  have n7_ := Aside0.mk (below_step (by repeat (first | (with_reducible first | exact HB.out | apply below_alloc | apply pw_below_drewN | apply below_drew1 | refine below_set ?_ GE194.out | refine below_set ?_ GE195.out | refine below_set ?_ GE217.out) | exact HB.out)) hb)
                  clear HO207
                  clear HO216
                  clear HO220
                  clear BK194
                  clear BK195
                  clear BK217
                  clear HB
                  have HO207 := n0_
                  have HO216 := n1_
                  have HO220 := n2_
                  have HO223 := n3_
                  have BK194 := n4_
                  have BK195 := n5_
                  have BK217 := n6_
                  have HB := n7_
                  clear n0_ n1_ n2_ n3_ n4_ n5_ n6_ n7_
                  (try clear hb)
                  (try clear hb2)
                  (try clear hk)
                  (try clear hi)
                  (try clear ho0)
                  refine hK.out _ _ ⟨(blk_cell BK194.out 0).trans rfl, (blk_cell BK194.out 1).trans rfl, (blk_cell BK194.out 2).trans rfl, (blk_cell BK195.out 0).trans rfl, (blk_cell BK195.out 1).trans rfl, (blk_cell BK195.out 2).trans rfl, (blk_cell BK217.out 0).trans rfl, (blk_cell BK217.out 1).trans rfl, (blk_cell BK217.out 2).trans rfl⟩ (fun hHeld => ?_)
                  clear hK K
                  refine norm_ (a' := ?_) ?_ ?_
                  rotate_left
                  · show Act.put _ (some 52) _ = _
                    simp only [Act.put, List.setIfInBounds_toArray, List.set_cons_zero, List.set_cons_succ, i64_w, i32_w]
                    rfl
                  refine one_ (i := 20) (N := some 59) #[true, true, true, true, true, true, true, true, true, true, true, true, true, true, true, true, true, true, true, true, true, false, false, false] rfl rfl (one_of HT_.out (by kernel_rfl)) (by decide) (fun K hK => ?_)
                  refine goes_ Try.func14 (by kernel_rfl) rfl #[.agg #[.bool false, .slice Ao48 y205.length co48, .slice Ao47 y214.length co47], .int .i64 a2, .int .i64 (wrap64 (Go.bits .and .u32 a3 7)), .int .u8 a4] (by rfl) rfl rfl (by (try simp only [List.map_toArray, List.map_cons, List.map_nil]); first | done | rfl | (simp only [List.length_drop, List.length_take]; rfl)) ?_
                  with_reducible refine (policy_Policy_Hits.calls kj7 false _ _ y205 _ _ y214 a2 (wrap64 (Go.bits .and .u32 a3 7)) a4 t224 _ ?side1 ?side2 ?side3 ?side4 A30.out).mono ?_
                  (case side1 => repeat (first | exact (Kd.R_reads' HO207.out).2.2 | (with_reducible refine Kd.C_alloc ?_ _) | (with_reducible refine Kd.C_drewN ?_ _) | (with_reducible refine Kd.C_drew ?_)))
                  (case side2 => exact (Kd.R_reads' HO207.out).2.1)
                  (case side3 => repeat (first | exact (Kd.R_reads' HO216.out).2.2 | (with_reducible refine Kd.C_alloc ?_ _) | (with_reducible refine Kd.C_drewN ?_ _) | (with_reducible refine Kd.C_drew ?_)))
                  (case side4 => exact (Kd.R_reads' HO216.out).2.1)
                  rintro e w52 ⟨v225, rfl, ho0, hb⟩
                  refine ⟨_, rfl, ?_⟩
                  have n0_ := Aside0.mk (Kd.R_below (by (with_reducible repeat (first | apply Kd.R_alloc | apply Kd.R_drewN | apply Kd.R_drew)); exact HO207.out) hb)
                  have n1_ := Aside0.mk (Kd.R_below (by (with_reducible repeat (first | apply Kd.R_alloc | apply Kd.R_drewN | apply Kd.R_drew)); exact HO216.out) hb)
                  have n2_ := Aside0.mk (Kd.R_elder' (by (with_reducible repeat (first | apply Kd.R_alloc | apply Kd.R_drewN | apply Kd.R_drew)); exact HO220.out) (Kd.R_base ho0) hb)
                  have n3_ := Aside0.mk (Kd.R_elder' (by (with_reducible repeat (first | apply Kd.R_alloc | apply Kd.R_drewN | apply Kd.R_drew)); exact HO223.out) (Kd.R_base ho0) hb)
                  have n4_ := Aside0.mk (Kd.R_lower (Kd.R_new' (Kd.R_new' ho0 (Kd.R_lt (by (with_reducible repeat (first | apply Kd.R_alloc | apply Kd.R_drewN | apply Kd.R_drew)); exact HO220.out))) (Kd.R_lt (by (with_reducible repeat (first | apply Kd.R_alloc | apply Kd.R_drewN | apply Kd.R_drew)); exact HO223.out))) (below_size (by repeat (first | (with_reducible first | exact HB.out | apply below_alloc | apply pw_below_drewN | apply below_drew1 | refine below_set ?_ GE194.out | refine below_set ?_ GE195.out | refine below_set ?_ GE217.out) | exact HB.out))))
                  have n5_ := Aside0.mk (blk_below (g := gb194) (o := .cells #[.bool a0_0, .slice A0_1 l0_1.length c0_1, .slice A0_2 l0_2.length c0_2] 26 (0, 0)) (by (with_reducible repeat (first | refine blk_drewN ?_ _ | refine blk_drew ?_ | refine blk_alloc ?_ _)); exact BK194.out) hb)
                  have n6_ := Aside0.mk (blk_below (g := gb195) (o := .cells #[.bool a1_0, .slice A1_1 l1_1.length c1_1, .slice A1_2 l1_2.length c1_2] 26 (0, 0)) (by (with_reducible repeat (first | refine blk_drewN ?_ _ | refine blk_drew ?_ | refine blk_alloc ?_ _)); exact BK195.out) hb)
                  have n7_ := Aside0.mk (blk_below (g := gb217) (o := .cells #[.bool false, .slice Ao48 y205.length co48, .slice Ao47 y214.length co47] 26 (0, 0)) (by (with_reducible repeat (first | refine blk_drewN ?_ _ | refine blk_drew ?_ | refine blk_alloc ?_ _)); exact BK217.out) hb)
                  have n8_ := Aside0.mk (below_step (by repeat (first | (with_reducible first | exact HB.out | apply below_alloc | apply pw_below_drewN | apply below_drew1 | refine below_set ?_ GE194.out | refine below_set ?_ GE195.out | refine below_set ?_ GE217.out) | exact HB.out)) hb)
                  clear HO207
                  clear HO216
                  clear HO220
                  clear HO223
                  clear BK194
                  clear BK195
                  clear BK217
                  clear HB
                  have HO207 := n0_
                  have HO216 := n1_
                  have HO220 := n2_
                  have HO223 := n3_
                  have HO226 := n4_
                  have BK194 := n5_
                  have BK195 := n6_
                  have BK217 := n7_
                  have HB := n8_
                  clear n0_ n1_ n2_ n3_ n4_ n5_ n6_ n7_ n8_
                  (try clear hb)
                  (try clear hb2)
                  (try clear hk)
                  (try clear hi)
                  (try clear ho0)
                  refine hK.out _ _ ⟨(blk_cell BK194.out 0).trans rfl, (blk_cell BK194.out 1).trans rfl, (blk_cell BK194.out 2).trans rfl, (blk_cell BK195.out 0).trans rfl, (blk_cell BK195.out 1).trans rfl, (blk_cell BK195.out 2).trans rfl, (blk_cell BK217.out 0).trans rfl, (blk_cell BK217.out 1).trans rfl, (blk_cell BK217.out 2).trans rfl⟩ (fun hHeld => ?_)
                  clear hK K
                  refine norm_ (a' := ?_) ?_ ?_
                  rotate_left
                  · show Act.put _ (some 59) _ = _
                    simp only [Act.put, List.setIfInBounds_toArray, List.set_cons_zero, List.set_cons_succ, i64_w, i32_w]
                    rfl
                  refine pure_ (i := 21) (N := some 12) (v := ?_) (a' := ?_) #[true, true, true, true, true, true, true, true, true, true, true, true, true, true, true, true, true, true, true, true, true, true, false, false] rfl rfl (any_of HT_.out (by kernel_rfl)) (fun _ _ _ h => h) (Or.inl ⟨by rfl, ?_⟩) ?_ ?_
                  rotate_left
                  · intro w'
                    go_simp
                    with_reducible rfl
                  rotate_left
                  · simp only [Act.put, List.setIfInBounds_toArray, List.set_cons_zero, List.set_cons_succ, i64_w, i32_w]
                    rfl
                  refine pure_ (i := 22) (N := some 13) (v := ?_) (a' := ?_) #[true, true, true, true, true, true, true, true, true, true, true, true, true, true, true, true, true, true, true, true, true, true, true, false] rfl rfl (any_of HT_.out (by kernel_rfl)) (fun _ _ _ h => h) (Or.inl ⟨by rfl, ?_⟩) ?_ ?_
                  rotate_left
                  · intro w'
                    go_simp
                    with_reducible rfl
                  rotate_left
                  · simp only [Act.put, List.setIfInBounds_toArray, List.set_cons_zero, List.set_cons_succ, i64_w, i32_w]
                    rfl
                  refine pure_ (i := 23) (N := some 14) (v := ?_) (a' := ?_) #[true, true, true, true, true, true, true, true, true, true, true, true, true, true, true, true, true, true, true, true, true, true, true, true] rfl rfl (any_of HT_.out (by kernel_rfl)) (fun _ _ _ h => h) (Or.inl ⟨by rfl, ?_⟩) ?_ ?_
                  rotate_left
                  · intro w'
                    go_simp
                    with_reducible rfl
                  rotate_left
                  · simp only [Act.put, List.setIfInBounds_toArray, List.set_cons_zero, List.set_cons_succ, i64_w, i32_w]
                    rfl
                  refine done_ (done_of HT_.out (by kernel_rfl)) ?_
                  try go_wp2
                  go_loopg [12, 15] kj7 (fun kq v12 v15 w' => ∃ (x12_2 : List Int) (x15_2 : Int), v15 = .int .i64 x15_2 ∧ Aside0 (tincturelaw7_PolicyParts.l0 kq a2 a3 x12_2 t221 t224 x15_2 a0_0 l0_1 l0_2 a1_0 l1_1 l1_2 false y205 y214 = some r) ∧ Aside0 (kq ≤ kj7) ∧ Aside0 (Kd.R (Kd.int .i64) 3 w' w.heap.size (fun k_ => some k_ ≠ (v222 : Value).ownBlock ∧ some k_ ≠ (v225 : Value).ownBlock) v12 x12_2) ∧ Aside0 (Kd.R (Kd.int .i64) 3 w' w.heap.size (fun k_ => some k_ ≠ (v12 : Value).ownBlock ∧ some k_ ≠ (v225 : Value).ownBlock) v222 t221) ∧ Aside0 (Kd.R (Kd.int .i64) 3 w' w.heap.size (fun k_ => some k_ ≠ (v12 : Value).ownBlock ∧ some k_ ≠ (v222 : Value).ownBlock) v225 t224) ∧ Aside0 (Kd.R k35 35 w' w.heap.size (fun _ => True) (.slice Ao48 y205.length co48) y205) ∧ Aside0 (Kd.R k37 37 w' w.heap.size (fun _ => True) (.slice Ao47 y214.length co47) y214) ∧ Aside0 (w'.heap[gb194]? = some (.cells #[.bool a0_0, (.slice A0_1 l0_1.length c0_1), (.slice A0_2 l0_2.length c0_2)] 26 (0, 0))) ∧ Aside0 (w'.heap[gb195]? = some (.cells #[.bool a1_0, (.slice A1_1 l1_1.length c1_1), (.slice A1_2 l1_2.length c1_2)] 26 (0, 0))) ∧ Aside0 (w'.heap[gb217]? = some (.cells #[.bool false, (.slice Ao48 y205.length co48), (.slice Ao47 y214.length co47)] 26 (0, 0))) ∧ Aside0 (Below w.heap.size w w'))
                  case atStart => exact ⟨(t218), (0), (by first | rfl | (simp; done) | (simp [*]; done)), H', ⟨Nat.le_refl _⟩, ⟨by (with_reducible repeat (first | apply Kd.R_alloc | apply Kd.R_drewN | apply Kd.R_drew)); exact Kd.R_mono HO220.out (fun _ hk => ⟨hk.1.2, hk.2⟩)⟩, ⟨by (with_reducible repeat (first | apply Kd.R_alloc | apply Kd.R_drewN | apply Kd.R_drew)); exact Kd.R_mono HO223.out (fun _ hk => ⟨hk.1.2, hk.2⟩)⟩, ⟨by (with_reducible repeat (first | apply Kd.R_alloc | apply Kd.R_drewN | apply Kd.R_drew)); exact Kd.R_mono HO226.out (fun _ hk => ⟨hk.1.2, hk.2⟩)⟩, ⟨by (with_reducible repeat (first | apply Kd.R_alloc | apply Kd.R_drewN | apply Kd.R_drew)); exact HO207.out⟩, ⟨by (with_reducible repeat (first | apply Kd.R_alloc | apply Kd.R_drewN | apply Kd.R_drew)); exact HO216.out⟩, ⟨by (with_reducible repeat (first | refine blk_drewN ?_ _ | refine blk_drew ?_ | refine blk_alloc ?_ _)); exact BK194.out⟩, ⟨by (with_reducible repeat (first | refine blk_drewN ?_ _ | refine blk_drew ?_ | refine blk_alloc ?_ _)); exact BK195.out⟩, ⟨by (with_reducible repeat (first | refine blk_drewN ?_ _ | refine blk_drew ?_ | refine blk_alloc ?_ _)); exact BK217.out⟩, ⟨by repeat (first | (with_reducible first | exact HB.out | apply below_alloc | apply pw_below_drewN | apply below_drew1 | refine below_set ?_ GE194.out | refine below_set ?_ GE195.out | refine below_set ?_ GE217.out) | exact HB.out)⟩⟩
                  case round =>
                    clear H'
                    try clear c1
                    try clear c2
                    try clear p2
                    try clear p6
                    try clear c14
                    try clear c26
                    try clear c27
                    obtain ⟨x12_2, x15_2, rfl, HA, HK2, HO_12, HO_13, HO_14, HO_218001, HO_218002, BK194, BK195, BK217, HB⟩ := hrel
                    cases gk with
                    | zero => exact absurd HA.out (by simp [tincturelaw7_PolicyParts.l0])
                    | succ k2 =>
                      have H := HA.out
                      clear HA
                      simp only [tincturelaw7_PolicyParts.l0] at H
                      by_cases c53 : x15_2 < (t221.length : Int)
                      · rw [if_pos c53] at H
                        have c53b0 : decide (x15_2 < (t221.length : Int)) = true := decide_eq_true c53
                        clear c53
                        by_cases c54 : 0 ≤ x15_2
                        · rw [if_pos c54] at H
                          have c54b0 : decide (0 ≤ x15_2) = true := decide_eq_true c54
                          clear c54
                          by_cases c55 : x12_2.length < 17592186044416
                          · rw [if_pos c55] at H
                            have LMc55 := Aside0.mk c55
                            clear c55
                            obtain ⟨y228, hy228⟩ : ∃ y_ : List Int, y_ = (x12_2 ++ [wrap64 ((rd t221 x15_2) + (l0_2.length : Int))]) := ⟨_, rfl⟩
                            replace H : (tincturelaw7_PolicyParts.l0 k2 a2 a3 y228 t221 t224 (wrap64 (x15_2 + 1)) a0_0 l0_1 l0_2 a1_0 l1_1 l1_2 false y205 y214) = some r := by first | (rw [hy228]; with_reducible exact H) | (have H2_ := (Option.bind_some _ _).symm.trans H; rw [hy228]; with_reducible exact H2_) | (have H2_ := (Option.bind_some _ _).symm.trans H; with_reducible exact H2_) | with_reducible exact H | (rw [hy228]; exact H) | exact H
                            have Ny228 := Aside0.mk hy228
                            clear hy228
                            have H' := Aside0.mk H
                            clear H
                            obtain ⟨Ao56, co56, eo56⟩ := Kd.R_slice HO_13.out
                            subst eo56
                            try go_wp2
                            have n0_ := Aside0.mk (Kd.R_drew HO_12.out)
                            have n1_ := Aside0.mk (Kd.R_drew HO_13.out)
                            have n2_ := Aside0.mk (Kd.R_drew HO_14.out)
                            have n3_ := Aside0.mk (Kd.R_drew HO_218001.out)
                            have n4_ := Aside0.mk (Kd.R_drew HO_218002.out)
                            have n5_ := Aside0.mk (blk_drew BK194.out)
                            have n6_ := Aside0.mk (blk_drew BK195.out)
                            have n7_ := Aside0.mk (blk_drew BK217.out)
                            have n8_ := Aside0.mk (below_drew1 HB.out)
                            clear HO_12
                            clear HO_13
                            clear HO_14
                            clear HO_218001
                            clear HO_218002
                            clear BK194
                            clear BK195
                            clear BK217
                            clear HB
                            have HO_12 := n0_
                            have HO_13 := n1_
                            have HO_14 := n2_
                            have HO_218001 := n3_
                            have HO_218002 := n4_
                            have BK194 := n5_
                            have BK195 := n6_
                            have BK217 := n7_
                            have HB := n8_
                            clear n0_ n1_ n2_ n3_ n4_ n5_ n6_ n7_ n8_
                            have p227 : 0 ≤ (x15_2 : Int) := of_decide_eq_true (by first | (with_reducible assumption) | assumption)
                            have q227 : x15_2 < (t221.length : Int) := of_decide_eq_true (by first | (with_reducible assumption) | assumption)
                            obtain ⟨ad227, e227, hx227_0⟩ := Kd.at_int (Kd.R_reads' HO_13.out).2.2 x15_2 p227 q227
                            cases e227
                            replace p227 := eq_true p227
                            replace q227 := eq_true q227
                            refine start_ (n := 12) (S := fun w' => w'.cell? ⟨gb194, 0, none⟩ = some (.bool a0_0) ∧ w'.cell? ⟨gb194, 1, none⟩ = some (.slice A0_1 l0_1.length c0_1) ∧ w'.cell? ⟨gb194, 2, none⟩ = some (.slice A0_2 l0_2.length c0_2) ∧ w'.cell? (ad227.add (x15_2).toNat) = some (.int .i64 (rd t221 x15_2))) (ds := [9, 10]) #[false, false, false, false, false, false, false, false, false, false, false, false] (by kernel_rfl) rfl rfl ⟨(blk_cell BK194.out 0).trans rfl, (blk_cell BK194.out 1).trans rfl, (blk_cell BK194.out 2).trans rfl, hx227_0⟩ (fun hHeld => ?_); refine with_tabW tincturelaw7_PolicyParts.tab10 tincturelaw7_PolicyParts.bits10 (fun HT_ HW_ => ?_)
                            generalize wr.drew = w57 at HO_12 HO_13 HO_14 HO_218001 HO_218002 BK194 BK195 BK217 HB hx227_0 hHeld ⊢
                            refine pure_ (i := 0) (N := some 66) (v := ?_) (a' := ?_) #[true, false, false, false, false, false, false, false, false, false, false, false] rfl rfl (any_of HT_.out (by kernel_rfl)) (fun _ _ _ h => h) (Or.inl ⟨by rfl, ?_⟩) ?_ ?_
                            rotate_left
                            · intro w'
                              go_simp
                              with_reducible rfl
                            rotate_left
                            · simp only [Act.put, List.setIfInBounds_toArray, List.set_cons_zero, List.set_cons_succ, i64_w, i32_w]
                              rfl
                            refine pure_ (i := 1) (N := some 67) (v := ?_) (a' := ?_) #[true, true, false, false, false, false, false, false, false, false, false, false] rfl rfl (any_of HT_.out (by kernel_rfl)) (fun _ _ _ h => h) (Or.inl ⟨by rfl, ?_⟩) ?_ ?_
                            rotate_left
                            · intro w'
                              go_simp
                              with_reducible rfl
                            rotate_left
                            · simp only [Act.put, List.setIfInBounds_toArray, List.set_cons_zero, List.set_cons_succ, i64_w, i32_w]
                              rfl
                            refine pure_ (i := 2) (N := some 68) (v := ?_) (a' := ?_) #[true, true, true, false, false, false, false, false, false, false, false, false] rfl rfl (any_of HT_.out (by kernel_rfl)) (fun _ _ _ h => h) (Or.inl ⟨by rfl, ?_⟩) ?_ ?_
                            rotate_left
                            · intro w'
                              go_simp
                              with_reducible rfl
                            rotate_left
                            · simp only [Act.put, List.setIfInBounds_toArray, List.set_cons_zero, List.set_cons_succ, i64_w, i32_w]
                              rfl
                            refine pure_ (i := 3) (N := some 69) (v := ?_) (a' := ?_) #[true, true, true, true, false, false, false, false, false, false, false, false] rfl rfl (any_of HT_.out (by kernel_rfl)) (fun _ _ _ h => h) (Or.inl ⟨by rfl, ?_⟩) ?_ ?_
                            rotate_left
                            · intro w'
                              go_simp
                              with_reducible rfl
                            rotate_left
                            · simp only [Act.put, List.setIfInBounds_toArray, List.set_cons_zero, List.set_cons_succ, i64_w, i32_w]
                              rfl
                            refine pure_ (i := 5) (N := some 71) (v := ?_) (a' := ?_) #[true, true, true, true, false, true, false, false, false, false, false, false] rfl rfl (any_of HT_.out (by kernel_rfl)) (fun _ _ _ h => h) (Or.inl ⟨by rfl, ?_⟩) ?_ ?_
                            rotate_left
                            · intro w'
                              go_simp
                              with_reducible rfl
                            rotate_left
                            · simp only [Act.put, List.setIfInBounds_toArray, List.set_cons_zero, List.set_cons_succ, i64_w, i32_w]
                              rfl
                            refine take_ (i := 4) (N := some 70) (v := ?_) (a' := ?_) #[true, true, true, true, true, true, false, false, false, false, false, false] rfl rfl (take_ofW HT_.out HW_.out (by kernel_rfl)) (fun _ _ _ h => h) (Or.inl ⟨by rfl, ?_⟩) hHeld ?_ ?_
                            rotate_left
                            · rintro w' ⟨s0, s1, s2, s3⟩
                              go_simp
                              with_reducible rfl
                            rotate_left
                            · simp only [Act.put, List.setIfInBounds_toArray, List.set_cons_zero, List.set_cons_succ, i64_w, i32_w]
                              rfl
                            refine take_ (i := 6) (N := some 72) (v := ?_) (a' := ?_) #[true, true, true, true, true, true, true, false, false, false, false, false] rfl rfl (take_ofW HT_.out HW_.out (by kernel_rfl)) (fun _ _ _ h => h) (Or.inl ⟨by rfl, ?_⟩) hHeld ?_ ?_
                            rotate_left
                            · rintro w' ⟨s0, s1, s2, s3⟩
                              go_simp
                              with_reducible rfl
                            rotate_left
                            · simp only [Act.put, List.setIfInBounds_toArray, List.set_cons_zero, List.set_cons_succ, i64_w, i32_w]
                              rfl
                            refine pure_ (i := 7) (N := some 73) (v := ?_) (a' := ?_) #[true, true, true, true, true, true, true, true, false, false, false, false] rfl rfl (any_of HT_.out (by kernel_rfl)) (fun _ _ _ h => h) (Or.inl ⟨by rfl, ?_⟩) ?_ ?_
                            rotate_left
                            · intro w'
                              go_simp
                              with_reducible rfl
                            rotate_left
                            · simp only [Act.put, List.setIfInBounds_toArray, List.set_cons_zero, List.set_cons_succ, i64_w, i32_w]
                              rfl
                            refine pure_ (i := 8) (N := some 74) (v := ?_) (a' := ?_) #[true, true, true, true, true, true, true, true, true, false, false, false] rfl rfl (any_of HT_.out (by kernel_rfl)) (fun _ _ _ h => h) (Or.inl ⟨by rfl, ?_⟩) ?_ ?_
                            rotate_left
                            · intro w'
                              go_simp
                              with_reducible rfl
                            rotate_left
                            · simp only [Act.put, List.setIfInBounds_toArray, List.set_cons_zero, List.set_cons_succ, i64_w, i32_w]
                              rfl
                            refine last_ (i := 9) (N := some 75) #[true, true, true, true, true, true, true, true, true, true, false, false] rfl rfl (one_of HT_.out (by kernel_rfl)) (by decide) (fun K hK => ?_)
                            refine value_ (w1 := ?_) (v := ?_) (by rfl) rfl ?_ ?_
                            rotate_left 2
                            · go_simp
                              constructor
                              · rfl
                              · rfl
                            refine hK.out _ _ ?_
                            clear hK K
                            refine norm_ (a' := ?_) ?_ ?_
                            rotate_left
                            · show Act.put _ (some 75) _ = _
                              simp only [Act.put, List.setIfInBounds_toArray, List.set_cons_zero, List.set_cons_succ, i64_w, i32_w]
                              rfl
                            refine last_ (i := 10) (N := some 76) #[true, true, true, true, true, true, true, true, true, true, true, false] rfl rfl (one_of HT_.out (by kernel_rfl)) (by decide) (fun K hK => ?_)
                            refine Kd.R_append_step (Kd.int .i64) (w0 := w) w.heap.size (by rfl) (.tmp 66) (.tmp 75) 40 3 (.int .i64 0) 8 rfl Try.underlying40 info3 rfl (by decide) (by omega) u12 x12_2 (wrap64 ((rd t221 x15_2) + (l0_2.length : Int))) [.int .i64 (wrap64 ((rd t221 x15_2) + (l0_2.length : Int)))] (fun k_ => some k_ ≠ (.slice (some ad227) t221.length co56 : Value).ownBlock ∧ some k_ ≠ (v225 : Value).ownBlock) (fun _ => False) rfl rfl ?aP (fun _ hk => hk.elim) ?aF ?aO ?aB ?aS ?aL ?_
                            (case aP => exact rfl)
                            (case aB => exact (by repeat (first | (with_reducible first | exact HB.out | apply below_alloc | apply pw_below_drewN | apply below_drew1 | refine below_set ?_ GE194.out | refine below_set ?_ GE195.out | refine below_set ?_ GE217.out) | exact HB.out)))
                            (case aF => exact (fun k_ hk => ⟨Kd.fresh' (Kd.R_lt (by (with_reducible repeat (first | apply Kd.R_alloc | apply Kd.R_drewN | apply Kd.R_drew)); exact HO_13.out)) k_ hk, Kd.fresh' (Kd.R_lt (by (with_reducible repeat (first | apply Kd.R_alloc | apply Kd.R_drewN | apply Kd.R_drew)); exact HO_14.out)) k_ hk⟩))
                            (case aO => exact (by (with_reducible repeat (first | apply Kd.R_alloc | apply Kd.R_drewN | apply Kd.R_drew)); exact HO_12.out))
                            (case aS => exact (below_size (by repeat (first | (with_reducible first | exact HB.out | apply below_alloc | apply pw_below_drewN | apply below_drew1 | refine below_set ?_ GE194.out | refine below_set ?_ GE195.out | refine below_set ?_ GE217.out) | exact HB.out))))
                            (case aL => have := LMc55.out; omega)
                            intro v229 w58 ho hb hg hat
                            rw [← Ny228.out] at ho
                            have n0_ := Aside0.mk (Kd.R_after (ok := (fun k_ => some k_ ≠ (v225 : Value).ownBlock)) (by (with_reducible repeat (first | apply Kd.R_alloc | apply Kd.R_drewN | apply Kd.R_drew)); exact Kd.R_mono HO_13.out (fun _ hk => ⟨hk.2, hk.1⟩)) hg hat)
                            have n1_ := Aside0.mk (Kd.R_after (ok := (fun k_ => some k_ ≠ (.slice (some ad227) t221.length co56 : Value).ownBlock)) (by (with_reducible repeat (first | apply Kd.R_alloc | apply Kd.R_drewN | apply Kd.R_drew)); exact Kd.R_mono HO_14.out (fun _ hk => ⟨hk.2, hk.1⟩)) hg hat)
                            have n2_ := Aside0.mk (Kd.R_over' (by (with_reducible repeat (first | apply Kd.R_alloc | apply Kd.R_drewN | apply Kd.R_drew)); exact HO_218001.out) (Kd.R_typed (by (with_reducible repeat (first | apply Kd.R_alloc | apply Kd.R_drewN | apply Kd.R_drew)); exact HO_12.out)) (by decide) hg)
                            have n3_ := Aside0.mk (Kd.R_over' (by (with_reducible repeat (first | apply Kd.R_alloc | apply Kd.R_drewN | apply Kd.R_drew)); exact HO_218002.out) (Kd.R_typed (by (with_reducible repeat (first | apply Kd.R_alloc | apply Kd.R_drewN | apply Kd.R_drew)); exact HO_12.out)) (by decide) hg)
                            have n4_ := Aside0.mk (blk_grown (g := gb194) (o := .cells #[.bool a0_0, .slice A0_1 l0_1.length c0_1, .slice A0_2 l0_2.length c0_2] 26 (0, 0)) (by (with_reducible repeat (first | refine blk_drewN ?_ _ | refine blk_drew ?_ | refine blk_alloc ?_ _)); exact BK194.out) hg (Kd.R_ne HO_12.out BK194.out (by decide)))
                            have n5_ := Aside0.mk (blk_grown (g := gb195) (o := .cells #[.bool a1_0, .slice A1_1 l1_1.length c1_1, .slice A1_2 l1_2.length c1_2] 26 (0, 0)) (by (with_reducible repeat (first | refine blk_drewN ?_ _ | refine blk_drew ?_ | refine blk_alloc ?_ _)); exact BK195.out) hg (Kd.R_ne HO_12.out BK195.out (by decide)))
                            have n6_ := Aside0.mk (blk_grown (g := gb217) (o := .cells #[.bool false, .slice Ao48 y205.length co48, .slice Ao47 y214.length co47] 26 (0, 0)) (by (with_reducible repeat (first | refine blk_drewN ?_ _ | refine blk_drew ?_ | refine blk_alloc ?_ _)); exact BK217.out) hg (Kd.R_ne HO_12.out BK217.out (by decide)))
                            have n7_ := Aside0.mk (hb)
                            have n8_ := Aside0.mk (ho)
                            clear HO_13
                            clear HO_14
                            clear HO_218001
                            clear HO_218002
                            clear BK194
                            clear BK195
                            clear BK217
                            clear HB
                            clear HO_12
                            have HO_13 := n0_
                            have HO_14 := n1_
                            have HO_218001 := n2_
                            have HO_218002 := n3_
                            have BK194 := n4_
                            have BK195 := n5_
                            have BK217 := n6_
                            have HB := n7_
                            have HO230 := n8_
                            clear n0_ n1_ n2_ n3_ n4_ n5_ n6_ n7_ n8_
                            clear ho hb hg hat
                            refine hK.out _ _ ?_
                            clear hK K
                            refine norm_ (a' := ?_) ?_ ?_
                            rotate_left
                            · show Act.put _ (some 76) _ = _
                              simp only [Act.put, List.setIfInBounds_toArray, List.set_cons_zero, List.set_cons_succ, i64_w, i32_w]
                              rfl
                            refine pure_ (i := 11) (N := some 12) (v := ?_) (a' := ?_) #[true, true, true, true, true, true, true, true, true, true, true, true] rfl rfl (any_of HT_.out (by kernel_rfl)) (fun _ _ _ h => h) (Or.inl ⟨by rfl, ?_⟩) ?_ ?_
                            rotate_left
                            · intro w'
                              go_simp
                              with_reducible rfl
                            rotate_left
                            · simp only [Act.put, List.setIfInBounds_toArray, List.set_cons_zero, List.set_cons_succ, i64_w, i32_w]
                              rfl
                            refine done_ (done_of HT_.out (by kernel_rfl)) ?_
                            try go_wp2
                            go_roundg k2
                            case measure => have := HJ7.out; have := HK2.out; omega
                            case rel => exact ⟨(y228), (wrap64 (x15_2 + 1)), (by first | rfl | (simp; done) | (simp [*]; done)), H', ⟨by have := HJ7.out; have := HK2.out; omega⟩, ⟨by (with_reducible repeat (first | apply Kd.R_alloc | apply Kd.R_drewN | apply Kd.R_drew)); exact HO230.out⟩, ⟨by (with_reducible repeat (first | apply Kd.R_alloc | apply Kd.R_drewN | apply Kd.R_drew)); exact Kd.R_mono HO_13.out (fun _ hk => ⟨hk.2, hk.1⟩)⟩, ⟨by (with_reducible repeat (first | apply Kd.R_alloc | apply Kd.R_drewN | apply Kd.R_drew)); exact Kd.R_mono HO_14.out (fun _ hk => ⟨hk.2, hk.1⟩)⟩, ⟨by (with_reducible repeat (first | apply Kd.R_alloc | apply Kd.R_drewN | apply Kd.R_drew)); exact HO_218001.out⟩, ⟨by (with_reducible repeat (first | apply Kd.R_alloc | apply Kd.R_drewN | apply Kd.R_drew)); exact HO_218002.out⟩, ⟨by (with_reducible repeat (first | refine blk_drewN ?_ _ | refine blk_drew ?_ | refine blk_alloc ?_ _)); exact BK194.out⟩, ⟨by (with_reducible repeat (first | refine blk_drewN ?_ _ | refine blk_drew ?_ | refine blk_alloc ?_ _)); exact BK195.out⟩, ⟨by (with_reducible repeat (first | refine blk_drewN ?_ _ | refine blk_drew ?_ | refine blk_alloc ?_ _)); exact BK217.out⟩, ⟨by repeat (first | (with_reducible first | exact HB.out | apply below_alloc | apply pw_below_drewN | apply below_drew1 | refine below_set ?_ GE194.out | refine below_set ?_ GE195.out | refine below_set ?_ GE217.out) | exact HB.out)⟩⟩
                          · rw [if_neg c55] at H
                            exact absurd H (by simp)
                        · rw [if_neg c54] at H
                          exact absurd H (by simp)
                      · rw [if_neg c53] at H
                        have c53b0 : decide (x15_2 < (t221.length : Int)) = false := decide_eq_false c53
                        clear c53
                        replace H := Option.bind_eq_some_iff.mp H
                        obtain ⟨t231, A590, H⟩ := H
                        replace H : ((policy_Policy_Label.f k2 a0_0 l0_1 l0_2 a2 a3).bind fun t232 => ((policy_Policy_Label.f k2 a1_0 l1_1 l1_2 a2 a3).bind fun t233 => (if t231 = (Go.bits .or .u8 t232 t233) then ((tincturelaw7_places.f k2 x12_2 t224).bind fun t234 => (some t234)) else (some false)))) = some r := H
                        have A59 := Aside0.mk A590
                        clear A590
                        replace H := Option.bind_eq_some_iff.mp H
                        obtain ⟨t232, A600, H⟩ := H
                        replace H : ((policy_Policy_Label.f k2 a1_0 l1_1 l1_2 a2 a3).bind fun t233 => (if t231 = (Go.bits .or .u8 t232 t233) then ((tincturelaw7_places.f k2 x12_2 t224).bind fun t234 => (some t234)) else (some false))) = some r := H
                        have A60 := Aside0.mk A600
                        clear A600
                        replace H := Option.bind_eq_some_iff.mp H
                        obtain ⟨t233, A610, H⟩ := H
                        replace H : (if t231 = (Go.bits .or .u8 t232 t233) then ((tincturelaw7_places.f k2 x12_2 t224).bind fun t234 => (some t234)) else (some false)) = some r := H
                        have A61 := Aside0.mk A610
                        clear A610
                        by_cases c62 : t231 = (Go.bits .or .u8 t232 t233)
                        · rw [if_pos c62] at H
                          have c62b0 : (t231 == (Go.bits .or .u8 t232 t233)) = true := beq_iff_eq.mpr c62
                          have c62b1 : (t231 != (Go.bits .or .u8 t232 t233)) = false := bne_eq_false_iff_eq.mpr c62
                          clear c62
                          replace H := Option.bind_eq_some_iff.mp H
                          obtain ⟨t234, A630, H⟩ := H
                          replace H : (some t234) = some r := H
                          have A63 := Aside0.mk A630
                          clear A630
                          obtain rfl := Option.some.inj H
                          obtain ⟨Ao64, co64, eo64⟩ := Kd.R_slice HO_13.out
                          subst eo64
                          try go_wp2
                          have n0_ := Aside0.mk (Kd.R_drew HO_12.out)
                          have n1_ := Aside0.mk (Kd.R_drew HO_13.out)
                          have n2_ := Aside0.mk (Kd.R_drew HO_14.out)
                          have n3_ := Aside0.mk (Kd.R_drew HO_218001.out)
                          have n4_ := Aside0.mk (Kd.R_drew HO_218002.out)
                          have n5_ := Aside0.mk (blk_drew BK194.out)
                          have n6_ := Aside0.mk (blk_drew BK195.out)
                          have n7_ := Aside0.mk (blk_drew BK217.out)
                          have n8_ := Aside0.mk (below_drew1 HB.out)
                          clear HO_12
                          clear HO_13
                          clear HO_14
                          clear HO_218001
                          clear HO_218002
                          clear BK194
                          clear BK195
                          clear BK217
                          clear HB
                          have HO_12 := n0_
                          have HO_13 := n1_
                          have HO_14 := n2_
                          have HO_218001 := n3_
                          have HO_218002 := n4_
                          have BK194 := n5_
                          have BK195 := n6_
                          have BK217 := n7_
                          have HB := n8_
                          clear n0_ n1_ n2_ n3_ n4_ n5_ n6_ n7_ n8_
                          refine start_ (n := 20) (S := fun w' => w'.cell? ⟨gb217, 0, none⟩ = some (.bool false) ∧ w'.cell? ⟨gb217, 1, none⟩ = some (.slice Ao48 y205.length co48) ∧ w'.cell? ⟨gb217, 2, none⟩ = some (.slice Ao47 y214.length co47) ∧ w'.cell? ⟨gb194, 0, none⟩ = some (.bool a0_0) ∧ w'.cell? ⟨gb194, 1, none⟩ = some (.slice A0_1 l0_1.length c0_1) ∧ w'.cell? ⟨gb194, 2, none⟩ = some (.slice A0_2 l0_2.length c0_2) ∧ w'.cell? ⟨gb195, 0, none⟩ = some (.bool a1_0) ∧ w'.cell? ⟨gb195, 1, none⟩ = some (.slice A1_1 l1_1.length c1_1) ∧ w'.cell? ⟨gb195, 2, none⟩ = some (.slice A1_2 l1_2.length c1_2)) (ds := []) #[false, false, false, false, false, false, false, false, false, false, false, false, false, false, false, false, false, false, false, false] (by kernel_rfl) rfl rfl ⟨(blk_cell BK217.out 0).trans rfl, (blk_cell BK217.out 1).trans rfl, (blk_cell BK217.out 2).trans rfl, (blk_cell BK194.out 0).trans rfl, (blk_cell BK194.out 1).trans rfl, (blk_cell BK194.out 2).trans rfl, (blk_cell BK195.out 0).trans rfl, (blk_cell BK195.out 1).trans rfl, (blk_cell BK195.out 2).trans rfl⟩ (fun hHeld => ?_); refine with_tabW tincturelaw7_PolicyParts.tab11 tincturelaw7_PolicyParts.bits11 (fun HT_ HW_ => ?_)
                          generalize wr.drew = w65 at HO_12 HO_13 HO_14 HO_218001 HO_218002 BK194 BK195 BK217 HB hHeld ⊢
                          refine pure_ (i := 1) (N := some 78) (v := ?_) (a' := ?_) #[false, true, false, false, false, false, false, false, false, false, false, false, false, false, false, false, false, false, false, false] rfl rfl (any_of HT_.out (by kernel_rfl)) (fun _ _ _ h => h) (Or.inl ⟨by rfl, ?_⟩) ?_ ?_
                          rotate_left
                          · intro w'
                            go_simp
                            with_reducible rfl
                          rotate_left
                          · simp only [Act.put, List.setIfInBounds_toArray, List.set_cons_zero, List.set_cons_succ, i64_w, i32_w]
                            rfl
                          refine pure_ (i := 2) (N := some 79) (v := ?_) (a' := ?_) #[false, true, true, false, false, false, false, false, false, false, false, false, false, false, false, false, false, false, false, false] rfl rfl (any_of HT_.out (by kernel_rfl)) (fun _ _ _ h => h) (Or.inl ⟨by rfl, ?_⟩) ?_ ?_
                          rotate_left
                          · intro w'
                            go_simp
                            with_reducible rfl
                          rotate_left
                          · simp only [Act.put, List.setIfInBounds_toArray, List.set_cons_zero, List.set_cons_succ, i64_w, i32_w]
                            rfl
                          refine pure_ (i := 5) (N := some 82) (v := ?_) (a' := ?_) #[false, true, true, false, false, true, false, false, false, false, false, false, false, false, false, false, false, false, false, false] rfl rfl (any_of HT_.out (by kernel_rfl)) (fun _ _ _ h => h) (Or.inl ⟨by rfl, ?_⟩) ?_ ?_
                          rotate_left
                          · intro w'
                            go_simp
                            with_reducible rfl
                          rotate_left
                          · simp only [Act.put, List.setIfInBounds_toArray, List.set_cons_zero, List.set_cons_succ, i64_w, i32_w]
                            rfl
                          refine pure_ (i := 6) (N := some 83) (v := ?_) (a' := ?_) #[false, true, true, false, false, true, true, false, false, false, false, false, false, false, false, false, false, false, false, false] rfl rfl (any_of HT_.out (by kernel_rfl)) (fun _ _ _ h => h) (Or.inl ⟨by rfl, ?_⟩) ?_ ?_
                          rotate_left
                          · intro w'
                            go_simp
                            with_reducible rfl
                          rotate_left
                          · simp only [Act.put, List.setIfInBounds_toArray, List.set_cons_zero, List.set_cons_succ, i64_w, i32_w]
                            rfl
                          refine pure_ (i := 9) (N := some 86) (v := ?_) (a' := ?_) #[false, true, true, false, false, true, true, false, false, true, false, false, false, false, false, false, false, false, false, false] rfl rfl (any_of HT_.out (by kernel_rfl)) (fun _ _ _ h => h) (Or.inl ⟨by rfl, ?_⟩) ?_ ?_
                          rotate_left
                          · intro w'
                            go_simp
                            with_reducible rfl
                          rotate_left
                          · simp only [Act.put, List.setIfInBounds_toArray, List.set_cons_zero, List.set_cons_succ, i64_w, i32_w]
                            rfl
                          refine pure_ (i := 10) (N := some 87) (v := ?_) (a' := ?_) #[false, true, true, false, false, true, true, false, false, true, true, false, false, false, false, false, false, false, false, false] rfl rfl (any_of HT_.out (by kernel_rfl)) (fun _ _ _ h => h) (Or.inl ⟨by rfl, ?_⟩) ?_ ?_
                          rotate_left
                          · intro w'
                            go_simp
                            with_reducible rfl
                          rotate_left
                          · simp only [Act.put, List.setIfInBounds_toArray, List.set_cons_zero, List.set_cons_succ, i64_w, i32_w]
                            rfl
                          refine take_ (i := 0) (N := some 77) (v := ?_) (a' := ?_) #[true, true, true, false, false, true, true, false, false, true, true, false, false, false, false, false, false, false, false, false] rfl rfl (take_ofW HT_.out HW_.out (by kernel_rfl)) (fun _ _ _ h => h) (Or.inl ⟨by rfl, ?_⟩) hHeld ?_ ?_
                          rotate_left
                          · rintro w' ⟨s0, s1, s2, s3, s4, s5, s6, s7, s8⟩
                            go_simp
                            with_reducible rfl
                          rotate_left
                          · simp only [Act.put, List.setIfInBounds_toArray, List.set_cons_zero, List.set_cons_succ, i64_w, i32_w]
                            rfl
                          refine take_ (i := 4) (N := some 81) (v := ?_) (a' := ?_) #[true, true, true, false, true, true, true, false, false, true, true, false, false, false, false, false, false, false, false, false] rfl rfl (take_ofW HT_.out HW_.out (by kernel_rfl)) (fun _ _ _ h => h) (Or.inl ⟨by rfl, ?_⟩) hHeld ?_ ?_
                          rotate_left
                          · rintro w' ⟨s0, s1, s2, s3, s4, s5, s6, s7, s8⟩
                            go_simp
                            with_reducible rfl
                          rotate_left
                          · simp only [Act.put, List.setIfInBounds_toArray, List.set_cons_zero, List.set_cons_succ, i64_w, i32_w]
                            rfl
                          refine take_ (i := 8) (N := some 85) (v := ?_) (a' := ?_) #[true, true, true, false, true, true, true, false, true, true, true, false, false, false, false, false, false, false, false, false] rfl rfl (take_ofW HT_.out HW_.out (by kernel_rfl)) (fun _ _ _ h => h) (Or.inl ⟨by rfl, ?_⟩) hHeld ?_ ?_
                          rotate_left
                          · rintro w' ⟨s0, s1, s2, s3, s4, s5, s6, s7, s8⟩
                            go_simp
                            with_reducible rfl
                          rotate_left
                          · simp only [Act.put, List.setIfInBounds_toArray, List.set_cons_zero, List.set_cons_succ, i64_w, i32_w]
                            rfl
                          refine one_ (i := 3) (N := some 80) #[true, true, true, true, true, true, true, false, true, true, true, false, false, false, false, false, false, false, false, false] rfl rfl (one_of HT_.out (by kernel_rfl)) (by decide) (fun K hK => ?_)
                          refine goes_ Try.func12 (by kernel_rfl) rfl #[.agg #[.bool false, .slice Ao48 y205.length co48, .slice Ao47 y214.length co47], .int .i64 a2, .int .u32 a3] (by rfl) rfl rfl (by (try simp only [List.map_toArray, List.map_cons, List.map_nil]); first | done | rfl | (simp only [List.length_drop, List.length_take]; rfl)) ?_
                          with_reducible refine (policy_Policy_Label.calls k2 false _ _ y205 _ _ y214 a2 a3 t231 _ ?side1 ?side2 ?side3 ?side4 A59.out).mono ?_
                          (case side1 => repeat (first | exact (Kd.R_reads' HO_218001.out).2.2 | (with_reducible refine Kd.C_alloc ?_ _) | (with_reducible refine Kd.C_drewN ?_ _) | (with_reducible refine Kd.C_drew ?_)))
                          (case side2 => exact (Kd.R_reads' HO_218001.out).2.1)
                          (case side3 => repeat (first | exact (Kd.R_reads' HO_218002.out).2.2 | (with_reducible refine Kd.C_alloc ?_ _) | (with_reducible refine Kd.C_drewN ?_ _) | (with_reducible refine Kd.C_drew ?_)))
                          (case side4 => exact (Kd.R_reads' HO_218002.out).2.1)
                          rintro e w66 ⟨rfl, hb⟩
                          refine ⟨_, rfl, ?_⟩
                          have n0_ := Aside0.mk (Kd.R_below (by (with_reducible repeat (first | apply Kd.R_alloc | apply Kd.R_drewN | apply Kd.R_drew)); exact HO_12.out) hb)
                          have n1_ := Aside0.mk (Kd.R_below (by (with_reducible repeat (first | apply Kd.R_alloc | apply Kd.R_drewN | apply Kd.R_drew)); exact HO_13.out) hb)
                          have n2_ := Aside0.mk (Kd.R_below (by (with_reducible repeat (first | apply Kd.R_alloc | apply Kd.R_drewN | apply Kd.R_drew)); exact HO_14.out) hb)
                          have n3_ := Aside0.mk (Kd.R_below (by (with_reducible repeat (first | apply Kd.R_alloc | apply Kd.R_drewN | apply Kd.R_drew)); exact HO_218001.out) hb)
                          have n4_ := Aside0.mk (Kd.R_below (by (with_reducible repeat (first | apply Kd.R_alloc | apply Kd.R_drewN | apply Kd.R_drew)); exact HO_218002.out) hb)
                          have n5_ := Aside0.mk (blk_below (g := gb194) (o := .cells #[.bool a0_0, .slice A0_1 l0_1.length c0_1, .slice A0_2 l0_2.length c0_2] 26 (0, 0)) (by (with_reducible repeat (first | refine blk_drewN ?_ _ | refine blk_drew ?_ | refine blk_alloc ?_ _)); exact BK194.out) hb)
                          have n6_ := Aside0.mk (blk_below (g := gb195) (o := .cells #[.bool a1_0, .slice A1_1 l1_1.length c1_1, .slice A1_2 l1_2.length c1_2] 26 (0, 0)) (by (with_reducible repeat (first | refine blk_drewN ?_ _ | refine blk_drew ?_ | refine blk_alloc ?_ _)); exact BK195.out) hb)
                          have n7_ := Aside0.mk (blk_below (g := gb217) (o := .cells #[.bool false, .slice Ao48 y205.length co48, .slice Ao47 y214.length co47] 26 (0, 0)) (by (with_reducible repeat (first | refine blk_drewN ?_ _ | refine blk_drew ?_ | refine blk_alloc ?_ _)); exact BK217.out) hb)
                          have n8_ := Aside0.mk (below_step (by repeat (first | (with_reducible first | exact HB.out | apply below_alloc | apply pw_below_drewN | apply below_drew1 | refine below_set ?_ GE194.out | refine below_set ?_ GE195.out | refine below_set ?_ GE217.out) | exact HB.out)) hb)
                          clear HO_12
                          clear HO_13
                          clear HO_14
                          clear HO_218001
                          clear HO_218002
                          clear BK194
                          clear BK195
                          clear BK217
                          clear HB
                          have HO_12 := n0_
                          have HO_13 := n1_
                          have HO_14 := n2_
                          have HO_218001 := n3_
                          have HO_218002 := n4_
                          have BK194 := n5_
                          have BK195 := n6_
                          have BK217 := n7_
                          have HB := n8_
                          clear n0_ n1_ n2_ n3_ n4_ n5_ n6_ n7_ n8_
                          (try clear hb)
                          (try clear hb2)
                          (try clear hk)
                          (try clear hi)
                          refine hK.out _ _ ⟨(blk_cell BK217.out 0).trans rfl, (blk_cell BK217.out 1).trans rfl, (blk_cell BK217.out 2).trans rfl, (blk_cell BK194.out 0).trans rfl, (blk_cell BK194.out 1).trans rfl, (blk_cell BK194.out 2).trans rfl, (blk_cell BK195.out 0).trans rfl, (blk_cell BK195.out 1).trans rfl, (blk_cell BK195.out 2).trans rfl⟩ (fun hHeld => ?_)
                          clear hK K
                          refine norm_ (a' := ?_) ?_ ?_
                          rotate_left
                          · show Act.put _ (some 80) _ = _
                            simp only [Act.put, List.setIfInBounds_toArray, List.set_cons_zero, List.set_cons_succ, i64_w, i32_w]
                            rfl
                          refine one_ (i := 7) (N := some 84) #[true, true, true, true, true, true, true, true, true, true, true, false, false, false, false, false, false, false, false, false] rfl rfl (one_of HT_.out (by kernel_rfl)) (by decide) (fun K hK => ?_)
                          refine goes_ Try.func12 (by kernel_rfl) rfl #[.agg #[.bool a0_0, .slice A0_1 l0_1.length c0_1, .slice A0_2 l0_2.length c0_2], .int .i64 a2, .int .u32 a3] (by rfl) rfl rfl (by (try simp only [List.map_toArray, List.map_cons, List.map_nil]); first | done | rfl | (simp only [List.length_drop, List.length_take]; rfl)) ?_
                          with_reducible refine (policy_Policy_Label.calls k2 a0_0 _ _ l0_1 _ _ l0_2 a2 a3 t232 _ ?side1 ?side2 ?side3 ?side4 A60.out).mono ?_
                          (case side1 => repeat (first | exact (Kd.C_below HR0_1.out HB.out) | (with_reducible refine Kd.C_alloc ?_ _) | (with_reducible refine Kd.C_drewN ?_ _) | (with_reducible refine Kd.C_drew ?_)))
                          (case side2 => exact HC0_1.out)
                          (case side3 => repeat (first | exact (Kd.C_below HR0_2.out HB.out) | (with_reducible refine Kd.C_alloc ?_ _) | (with_reducible refine Kd.C_drewN ?_ _) | (with_reducible refine Kd.C_drew ?_)))
                          (case side4 => exact HC0_2.out)
                          rintro e w67 ⟨rfl, hb⟩
                          refine ⟨_, rfl, ?_⟩
                          have n0_ := Aside0.mk (Kd.R_below (by (with_reducible repeat (first | apply Kd.R_alloc | apply Kd.R_drewN | apply Kd.R_drew)); exact HO_12.out) hb)
                          have n1_ := Aside0.mk (Kd.R_below (by (with_reducible repeat (first | apply Kd.R_alloc | apply Kd.R_drewN | apply Kd.R_drew)); exact HO_13.out) hb)
                          have n2_ := Aside0.mk (Kd.R_below (by (with_reducible repeat (first | apply Kd.R_alloc | apply Kd.R_drewN | apply Kd.R_drew)); exact HO_14.out) hb)
                          have n3_ := Aside0.mk (Kd.R_below (by (with_reducible repeat (first | apply Kd.R_alloc | apply Kd.R_drewN | apply Kd.R_drew)); exact HO_218001.out) hb)
                          have n4_ := Aside0.mk (Kd.R_below (by (with_reducible repeat (first | apply Kd.R_alloc | apply Kd.R_drewN | apply Kd.R_drew)); exact HO_218002.out) hb)
                          have n5_ := Aside0.mk (blk_below (g := gb194) (o := .cells #[.bool a0_0, .slice A0_1 l0_1.length c0_1, .slice A0_2 l0_2.length c0_2] 26 (0, 0)) (by (with_reducible repeat (first | refine blk_drewN ?_ _ | refine blk_drew ?_ | refine blk_alloc ?_ _)); exact BK194.out) hb)
                          have n6_ := Aside0.mk (blk_below (g := gb195) (o := .cells #[.bool a1_0, .slice A1_1 l1_1.length c1_1, .slice A1_2 l1_2.length c1_2] 26 (0, 0)) (by (with_reducible repeat (first | refine blk_drewN ?_ _ | refine blk_drew ?_ | refine blk_alloc ?_ _)); exact BK195.out) hb)
                          have n7_ := Aside0.mk (blk_below (g := gb217) (o := .cells #[.bool false, .slice Ao48 y205.length co48, .slice Ao47 y214.length co47] 26 (0, 0)) (by (with_reducible repeat (first | refine blk_drewN ?_ _ | refine blk_drew ?_ | refine blk_alloc ?_ _)); exact BK217.out) hb)
                          have n8_ := Aside0.mk (below_step (by repeat (first | (with_reducible first | exact HB.out | apply below_alloc | apply pw_below_drewN | apply below_drew1 | refine below_set ?_ GE194.out | refine below_set ?_ GE195.out | refine below_set ?_ GE217.out) | exact HB.out)) hb)
                          clear HO_12
                          clear HO_13
                          clear HO_14
                          clear HO_218001
                          clear HO_218002
                          clear BK194
                          clear BK195
                          clear BK217
                          clear HB
                          have HO_12 := n0_
                          have HO_13 := n1_
                          have HO_14 := n2_
                          have HO_218001 := n3_
                          have HO_218002 := n4_
                          have BK194 := n5_
                          have BK195 := n6_
                          have BK217 := n7_
                          have HB := n8_
                          clear n0_ n1_ n2_ n3_ n4_ n5_ n6_ n7_ n8_
                          (try clear hb)
                          (try clear hb2)
                          (try clear hk)
                          (try clear hi)
                          refine hK.out _ _ ⟨(blk_cell BK217.out 0).trans rfl, (blk_cell BK217.out 1).trans rfl, (blk_cell BK217.out 2).trans rfl, (blk_cell BK194.out 0).trans rfl, (blk_cell BK194.out 1).trans rfl, (blk_cell BK194.out 2).trans rfl, (blk_cell BK195.out 0).trans rfl, (blk_cell BK195.out 1).trans rfl, (blk_cell BK195.out 2).trans rfl⟩ (fun hHeld => ?_)
                          clear hK K
                          refine norm_ (a' := ?_) ?_ ?_
                          rotate_left
                          · show Act.put _ (some 84) _ = _
                            simp only [Act.put, List.setIfInBounds_toArray, List.set_cons_zero, List.set_cons_succ, i64_w, i32_w]
                            rfl
                          refine one_ (i := 11) (N := some 88) #[true, true, true, true, true, true, true, true, true, true, true, true, false, false, false, false, false, false, false, false] rfl rfl (one_of HT_.out (by kernel_rfl)) (by decide) (fun K hK => ?_)
                          refine goes_ Try.func12 (by kernel_rfl) rfl #[.agg #[.bool a1_0, .slice A1_1 l1_1.length c1_1, .slice A1_2 l1_2.length c1_2], .int .i64 a2, .int .u32 a3] (by rfl) rfl rfl (by (try simp only [List.map_toArray, List.map_cons, List.map_nil]); first | done | rfl | (simp only [List.length_drop, List.length_take]; rfl)) ?_
                          with_reducible refine (policy_Policy_Label.calls k2 a1_0 _ _ l1_1 _ _ l1_2 a2 a3 t233 _ ?side1 ?side2 ?side3 ?side4 A61.out).mono ?_
                          (case side1 => repeat (first | exact (Kd.C_below HR1_1.out HB.out) | (with_reducible refine Kd.C_alloc ?_ _) | (with_reducible refine Kd.C_drewN ?_ _) | (with_reducible refine Kd.C_drew ?_)))
                          (case side2 => exact HC1_1.out)
                          (case side3 => repeat (first | exact (Kd.C_below HR1_2.out HB.out) | (with_reducible refine Kd.C_alloc ?_ _) | (with_reducible refine Kd.C_drewN ?_ _) | (with_reducible refine Kd.C_drew ?_)))
                          (case side4 => exact HC1_2.out)
                          rintro e w68 ⟨rfl, hb⟩
                          refine ⟨_, rfl, ?_⟩
                          have n0_ := Aside0.mk (Kd.R_below (by (with_reducible repeat (first | apply Kd.R_alloc | apply Kd.R_drewN | apply Kd.R_drew)); exact HO_12.out) hb)
                          have n1_ := Aside0.mk (Kd.R_below (by (with_reducible repeat (first | apply Kd.R_alloc | apply Kd.R_drewN | apply Kd.R_drew)); exact HO_13.out) hb)
                          have n2_ := Aside0.mk (Kd.R_below (by (with_reducible repeat (first | apply Kd.R_alloc | apply Kd.R_drewN | apply Kd.R_drew)); exact HO_14.out) hb)
                          have n3_ := Aside0.mk (Kd.R_below (by (with_reducible repeat (first | apply Kd.R_alloc | apply Kd.R_drewN | apply Kd.R_drew)); exact HO_218001.out) hb)
                          have n4_ := Aside0.mk (Kd.R_below (by (with_reducible repeat (first | apply Kd.R_alloc | apply Kd.R_drewN | apply Kd.R_drew)); exact HO_218002.out) hb)
                          have n5_ := Aside0.mk (blk_below (g := gb194) (o := .cells #[.bool a0_0, .slice A0_1 l0_1.length c0_1, .slice A0_2 l0_2.length c0_2] 26 (0, 0)) (by (with_reducible repeat (first | refine blk_drewN ?_ _ | refine blk_drew ?_ | refine blk_alloc ?_ _)); exact BK194.out) hb)
                          have n6_ := Aside0.mk (blk_below (g := gb195) (o := .cells #[.bool a1_0, .slice A1_1 l1_1.length c1_1, .slice A1_2 l1_2.length c1_2] 26 (0, 0)) (by (with_reducible repeat (first | refine blk_drewN ?_ _ | refine blk_drew ?_ | refine blk_alloc ?_ _)); exact BK195.out) hb)
                          have n7_ := Aside0.mk (blk_below (g := gb217) (o := .cells #[.bool false, .slice Ao48 y205.length co48, .slice Ao47 y214.length co47] 26 (0, 0)) (by (with_reducible repeat (first | refine blk_drewN ?_ _ | refine blk_drew ?_ | refine blk_alloc ?_ _)); exact BK217.out) hb)
                          have n8_ := Aside0.mk (below_step (by repeat (first | (with_reducible first | exact HB.out | apply below_alloc | apply pw_below_drewN | apply below_drew1 | refine below_set ?_ GE194.out | refine below_set ?_ GE195.out | refine below_set ?_ GE217.out) | exact HB.out)) hb)
                          clear HO_12
                          clear HO_13
                          clear HO_14
                          clear HO_218001
                          clear HO_218002
                          clear BK194
                          clear BK195
                          clear BK217
                          clear HB
                          have HO_12 := n0_
                          have HO_13 := n1_
                          have HO_14 := n2_
                          have HO_218001 := n3_
                          have HO_218002 := n4_
                          have BK194 := n5_
                          have BK195 := n6_
                          have BK217 := n7_
                          have HB := n8_
                          clear n0_ n1_ n2_ n3_ n4_ n5_ n6_ n7_ n8_
                          (try clear hb)
                          (try clear hb2)
                          (try clear hk)
                          (try clear hi)
                          obtain ⟨Ao69, co69, eo69⟩ := Kd.R_slice HO_12.out
                          (first | subst eo69 | (injection eo69 with f1_ f2_ f3_; have f4_ := f1_.symm; have f5_ := f3_.symm; clear f1_ f2_ f3_; subst f4_; subst f5_))
                          obtain ⟨Ao70, co70, eo70⟩ := Kd.R_slice HO_14.out
                          (first | subst eo70 | (injection eo70 with f1_ f2_ f3_; have f4_ := f1_.symm; have f5_ := f3_.symm; clear f1_ f2_ f3_; subst f4_; subst f5_))
                          refine hK.out _ _ ⟨(blk_cell BK217.out 0).trans rfl, (blk_cell BK217.out 1).trans rfl, (blk_cell BK217.out 2).trans rfl, (blk_cell BK194.out 0).trans rfl, (blk_cell BK194.out 1).trans rfl, (blk_cell BK194.out 2).trans rfl, (blk_cell BK195.out 0).trans rfl, (blk_cell BK195.out 1).trans rfl, (blk_cell BK195.out 2).trans rfl⟩ (fun hHeld => ?_)
                          clear hK K
                          refine norm_ (a' := ?_) ?_ ?_
                          rotate_left
                          · show Act.put _ (some 88) _ = _
                            simp only [Act.put, List.setIfInBounds_toArray, List.set_cons_zero, List.set_cons_succ, i64_w, i32_w]
                            rfl
                          refine pure_ (i := 12) (N := some 89) (v := ?_) (a' := ?_) #[true, true, true, true, true, true, true, true, true, true, true, true, true, false, false, false, false, false, false, false] rfl rfl (any_of HT_.out (by kernel_rfl)) (fun _ _ _ h => h) (Or.inl ⟨by rfl, ?_⟩) ?_ ?_
                          rotate_left
                          · intro w'
                            go_simp
                            with_reducible rfl
                          rotate_left
                          · simp only [Act.put, List.setIfInBounds_toArray, List.set_cons_zero, List.set_cons_succ, i64_w, i32_w]
                            rfl
                          refine pure_ (i := 13) (N := some 90) (v := ?_) (a' := ?_) #[true, true, true, true, true, true, true, true, true, true, true, true, true, true, false, false, false, false, false, false] rfl rfl (any_of HT_.out (by kernel_rfl)) (fun _ _ _ h => h) (Or.inl ⟨by rfl, ?_⟩) ?_ ?_
                          rotate_left
                          · intro w'
                            go_simp
                            with_reducible rfl
                          rotate_left
                          · simp only [Act.put, List.setIfInBounds_toArray, List.set_cons_zero, List.set_cons_succ, i64_w, i32_w]
                            rfl
                          refine pure_ (i := 14) (N := some 91) (v := ?_) (a' := ?_) #[true, true, true, true, true, true, true, true, true, true, true, true, true, true, true, false, false, false, false, false] rfl rfl (any_of HT_.out (by kernel_rfl)) (fun _ _ _ h => h) (Or.inl ⟨by rfl, ?_⟩) ?_ ?_
                          rotate_left
                          · intro w'
                            go_simp
                            with_reducible rfl
                          rotate_left
                          · simp only [Act.put, List.setIfInBounds_toArray, List.set_cons_zero, List.set_cons_succ, i64_w, i32_w]
                            rfl
                          refine pure_ (i := 15) (N := some 92) (v := ?_) (a' := ?_) #[true, true, true, true, true, true, true, true, true, true, true, true, true, true, true, true, false, false, false, false] rfl rfl (any_of HT_.out (by kernel_rfl)) (fun _ _ _ h => h) (Or.inl ⟨by rfl, ?_⟩) ?_ ?_
                          rotate_left
                          · intro w'
                            go_simp
                            with_reducible rfl
                          rotate_left
                          · simp only [Act.put, List.setIfInBounds_toArray, List.set_cons_zero, List.set_cons_succ, i64_w, i32_w]
                            rfl
                          refine pure_ (i := 16) (N := some 93) (v := ?_) (a' := ?_) #[true, true, true, true, true, true, true, true, true, true, true, true, true, true, true, true, true, false, false, false] rfl rfl (any_of HT_.out (by kernel_rfl)) (fun _ _ _ h => h) (Or.inl ⟨by rfl, ?_⟩) ?_ ?_
                          rotate_left
                          · intro w'
                            go_simp
                            with_reducible rfl
                          rotate_left
                          · simp only [Act.put, List.setIfInBounds_toArray, List.set_cons_zero, List.set_cons_succ, i64_w, i32_w]
                            rfl
                          refine one_ (i := 17) (N := some 94) #[true, true, true, true, true, true, true, true, true, true, true, true, true, true, true, true, true, true, false, false] rfl rfl (one_of HT_.out (by kernel_rfl)) (by decide) (fun K hK => ?_)
                          refine goes_ Try.func13 (by kernel_rfl) rfl #[.slice Ao69 x12_2.length co69, .slice Ao70 t224.length co70] (by rfl) rfl rfl (by (try simp only [List.map_toArray, List.map_cons, List.map_nil]); first | done | rfl | (simp only [List.length_drop, List.length_take]; rfl)) ?_
                          with_reducible refine (tincturelaw7_places.calls k2 _ _ x12_2 _ _ t224 t234 _ ?side1 ?side2 ?side3 ?side4 A63.out).mono ?_
                          (case side1 => repeat (first | exact (Kd.R_reads' HO_12.out).2.2 | (with_reducible refine Kd.C_alloc ?_ _) | (with_reducible refine Kd.C_drewN ?_ _) | (with_reducible refine Kd.C_drew ?_)))
                          (case side2 => exact (Kd.R_reads' HO_12.out).2.1)
                          (case side3 => repeat (first | exact (Kd.R_reads' HO_14.out).2.2 | (with_reducible refine Kd.C_alloc ?_ _) | (with_reducible refine Kd.C_drewN ?_ _) | (with_reducible refine Kd.C_drew ?_)))
                          (case side4 => exact (Kd.R_reads' HO_14.out).2.1)
                          rintro e w' ⟨rfl, ⟨nd, rfl⟩⟩
                          refine ⟨_, rfl, ?_⟩
                          refine hK.out _ _ ⟨(blk_cell BK217.out 0).trans rfl, (blk_cell BK217.out 1).trans rfl, (blk_cell BK217.out 2).trans rfl, (blk_cell BK194.out 0).trans rfl, (blk_cell BK194.out 1).trans rfl, (blk_cell BK194.out 2).trans rfl, (blk_cell BK195.out 0).trans rfl, (blk_cell BK195.out 1).trans rfl, (blk_cell BK195.out 2).trans rfl⟩ (fun hHeld => ?_)
                          clear hK K
                          refine norm_ (a' := ?_) ?_ ?_
                          rotate_left
                          · show Act.put _ (some 94) _ = _
                            simp only [Act.put, List.setIfInBounds_toArray, List.set_cons_zero, List.set_cons_succ, i64_w, i32_w]
                            rfl
                          refine pure_ (i := 18) (N := some 95) (v := ?_) (a' := ?_) #[true, true, true, true, true, true, true, true, true, true, true, true, true, true, true, true, true, true, true, false] rfl rfl (any_of HT_.out (by kernel_rfl)) (fun _ _ _ h => h) (Or.inl ⟨by rfl, ?_⟩) ?_ ?_
                          rotate_left
                          · intro w'
                            go_simp
                            with_reducible rfl
                          rotate_left
                          · simp only [Act.put, List.setIfInBounds_toArray, List.set_cons_zero, List.set_cons_succ, i64_w, i32_w]
                            rfl
                          refine pure_ (i := 19) (N := some 10) (v := ?_) (a' := ?_) #[true, true, true, true, true, true, true, true, true, true, true, true, true, true, true, true, true, true, true, true] rfl rfl (any_of HT_.out (by kernel_rfl)) (fun _ _ _ h => h) (Or.inl ⟨by rfl, ?_⟩) ?_ ?_
                          rotate_left
                          · intro w'
                            go_simp
                            with_reducible rfl
                          rotate_left
                          · simp only [Act.put, List.setIfInBounds_toArray, List.set_cons_zero, List.set_cons_succ, i64_w, i32_w]
                            rfl
                          refine done_ (done_of HT_.out (by kernel_rfl)) ?_
                          try go_wp2
                          go_ret
                          exact ⟨by first | rfl | (simp [errW_none, errW_some] <;> rfl) | (simp [*, errW_none, errW_some] <;> rfl), by repeat (first | (with_reducible first | exact HB.out | apply below_alloc | apply pw_below_drewN | apply below_drew1 | refine below_set ?_ GE194.out | refine below_set ?_ GE195.out | refine below_set ?_ GE217.out) | exact HB.out)⟩
                        · rw [if_neg c62] at H
                          have c62b0 : (t231 == (Go.bits .or .u8 t232 t233)) = false := beq_eq_false_iff_ne.mpr c62
                          have c62b1 : (t231 != (Go.bits .or .u8 t232 t233)) = true := bne_iff_ne.mpr c62
                          obtain rfl := Option.some.inj H
                          obtain ⟨Ao71, co71, eo71⟩ := Kd.R_slice HO_13.out
                          subst eo71
                          try go_wp2
                          have n0_ := Aside0.mk (Kd.R_drew HO_12.out)
                          have n1_ := Aside0.mk (Kd.R_drew HO_13.out)
                          have n2_ := Aside0.mk (Kd.R_drew HO_14.out)
                          have n3_ := Aside0.mk (Kd.R_drew HO_218001.out)
                          have n4_ := Aside0.mk (Kd.R_drew HO_218002.out)
                          have n5_ := Aside0.mk (blk_drew BK194.out)
                          have n6_ := Aside0.mk (blk_drew BK195.out)
                          have n7_ := Aside0.mk (blk_drew BK217.out)
                          have n8_ := Aside0.mk (below_drew1 HB.out)
                          clear HO_12
                          clear HO_13
                          clear HO_14
                          clear HO_218001
                          clear HO_218002
                          clear BK194
                          clear BK195
                          clear BK217
                          clear HB
                          have HO_12 := n0_
                          have HO_13 := n1_
                          have HO_14 := n2_
                          have HO_218001 := n3_
                          have HO_218002 := n4_
                          have BK194 := n5_
                          have BK195 := n6_
                          have BK217 := n7_
                          have HB := n8_
                          clear n0_ n1_ n2_ n3_ n4_ n5_ n6_ n7_ n8_
                          refine start_ (n := 20) (S := fun w' => w'.cell? ⟨gb217, 0, none⟩ = some (.bool false) ∧ w'.cell? ⟨gb217, 1, none⟩ = some (.slice Ao48 y205.length co48) ∧ w'.cell? ⟨gb217, 2, none⟩ = some (.slice Ao47 y214.length co47) ∧ w'.cell? ⟨gb194, 0, none⟩ = some (.bool a0_0) ∧ w'.cell? ⟨gb194, 1, none⟩ = some (.slice A0_1 l0_1.length c0_1) ∧ w'.cell? ⟨gb194, 2, none⟩ = some (.slice A0_2 l0_2.length c0_2) ∧ w'.cell? ⟨gb195, 0, none⟩ = some (.bool a1_0) ∧ w'.cell? ⟨gb195, 1, none⟩ = some (.slice A1_1 l1_1.length c1_1) ∧ w'.cell? ⟨gb195, 2, none⟩ = some (.slice A1_2 l1_2.length c1_2)) (ds := []) #[false, false, false, false, false, false, false, false, false, false, false, false, false, false, false, false, false, false, false, false] (by kernel_rfl) rfl rfl ⟨(blk_cell BK217.out 0).trans rfl, (blk_cell BK217.out 1).trans rfl, (blk_cell BK217.out 2).trans rfl, (blk_cell BK194.out 0).trans rfl, (blk_cell BK194.out 1).trans rfl, (blk_cell BK194.out 2).trans rfl, (blk_cell BK195.out 0).trans rfl, (blk_cell BK195.out 1).trans rfl, (blk_cell BK195.out 2).trans rfl⟩ (fun hHeld => ?_); refine with_tabW tincturelaw7_PolicyParts.tab11 tincturelaw7_PolicyParts.bits11 (fun HT_ HW_ => ?_)
                          generalize wr.drew = w72 at HO_12 HO_13 HO_14 HO_218001 HO_218002 BK194 BK195 BK217 HB hHeld ⊢
                          refine pure_ (i := 1) (N := some 78) (v := ?_) (a' := ?_) #[false, true, false, false, false, false, false, false, false, false, false, false, false, false, false, false, false, false, false, false] rfl rfl (any_of HT_.out (by kernel_rfl)) (fun _ _ _ h => h) (Or.inl ⟨by rfl, ?_⟩) ?_ ?_
                          rotate_left
                          · intro w'
                            go_simp
                            with_reducible rfl
                          rotate_left
                          · simp only [Act.put, List.setIfInBounds_toArray, List.set_cons_zero, List.set_cons_succ, i64_w, i32_w]
                            rfl
                          refine pure_ (i := 2) (N := some 79) (v := ?_) (a' := ?_) #[false, true, true, false, false, false, false, false, false, false, false, false, false, false, false, false, false, false, false, false] rfl rfl (any_of HT_.out (by kernel_rfl)) (fun _ _ _ h => h) (Or.inl ⟨by rfl, ?_⟩) ?_ ?_
                          rotate_left
                          · intro w'
                            go_simp
                            with_reducible rfl
                          rotate_left
                          · simp only [Act.put, List.setIfInBounds_toArray, List.set_cons_zero, List.set_cons_succ, i64_w, i32_w]
                            rfl
                          refine pure_ (i := 5) (N := some 82) (v := ?_) (a' := ?_) #[false, true, true, false, false, true, false, false, false, false, false, false, false, false, false, false, false, false, false, false] rfl rfl (any_of HT_.out (by kernel_rfl)) (fun _ _ _ h => h) (Or.inl ⟨by rfl, ?_⟩) ?_ ?_
                          rotate_left
                          · intro w'
                            go_simp
                            with_reducible rfl
                          rotate_left
                          · simp only [Act.put, List.setIfInBounds_toArray, List.set_cons_zero, List.set_cons_succ, i64_w, i32_w]
                            rfl
                          refine pure_ (i := 6) (N := some 83) (v := ?_) (a' := ?_) #[false, true, true, false, false, true, true, false, false, false, false, false, false, false, false, false, false, false, false, false] rfl rfl (any_of HT_.out (by kernel_rfl)) (fun _ _ _ h => h) (Or.inl ⟨by rfl, ?_⟩) ?_ ?_
                          rotate_left
                          · intro w'
                            go_simp
                            with_reducible rfl
                          rotate_left
                          · simp only [Act.put, List.setIfInBounds_toArray, List.set_cons_zero, List.set_cons_succ, i64_w, i32_w]
                            rfl
                          refine pure_ (i := 9) (N := some 86) (v := ?_) (a' := ?_) #[false, true, true, false, false, true, true, false, false, true, false, false, false, false, false, false, false, false, false, false] rfl rfl (any_of HT_.out (by kernel_rfl)) (fun _ _ _ h => h) (Or.inl ⟨by rfl, ?_⟩) ?_ ?_
                          rotate_left
                          · intro w'
                            go_simp
                            with_reducible rfl
                          rotate_left
                          · simp only [Act.put, List.setIfInBounds_toArray, List.set_cons_zero, List.set_cons_succ, i64_w, i32_w]
                            rfl
                          refine pure_ (i := 10) (N := some 87) (v := ?_) (a' := ?_) #[false, true, true, false, false, true, true, false, false, true, true, false, false, false, false, false, false, false, false, false] rfl rfl (any_of HT_.out (by kernel_rfl)) (fun _ _ _ h => h) (Or.inl ⟨by rfl, ?_⟩) ?_ ?_
                          rotate_left
                          · intro w'
                            go_simp
                            with_reducible rfl
                          rotate_left
                          · simp only [Act.put, List.setIfInBounds_toArray, List.set_cons_zero, List.set_cons_succ, i64_w, i32_w]
                            rfl
                          refine take_ (i := 0) (N := some 77) (v := ?_) (a' := ?_) #[true, true, true, false, false, true, true, false, false, true, true, false, false, false, false, false, false, false, false, false] rfl rfl (take_ofW HT_.out HW_.out (by kernel_rfl)) (fun _ _ _ h => h) (Or.inl ⟨by rfl, ?_⟩) hHeld ?_ ?_
                          rotate_left
                          · rintro w' ⟨s0, s1, s2, s3, s4, s5, s6, s7, s8⟩
                            go_simp
                            with_reducible rfl
                          rotate_left
                          · simp only [Act.put, List.setIfInBounds_toArray, List.set_cons_zero, List.set_cons_succ, i64_w, i32_w]
                            rfl
                          refine take_ (i := 4) (N := some 81) (v := ?_) (a' := ?_) #[true, true, true, false, true, true, true, false, false, true, true, false, false, false, false, false, false, false, false, false] rfl rfl (take_ofW HT_.out HW_.out (by kernel_rfl)) (fun _ _ _ h => h) (Or.inl ⟨by rfl, ?_⟩) hHeld ?_ ?_
                          rotate_left
                          · rintro w' ⟨s0, s1, s2, s3, s4, s5, s6, s7, s8⟩
                            go_simp
                            with_reducible rfl
                          rotate_left
                          · simp only [Act.put, List.setIfInBounds_toArray, List.set_cons_zero, List.set_cons_succ, i64_w, i32_w]
                            rfl
                          refine take_ (i := 8) (N := some 85) (v := ?_) (a' := ?_) #[true, true, true, false, true, true, true, false, true, true, true, false, false, false, false, false, false, false, false, false] rfl rfl (take_ofW HT_.out HW_.out (by kernel_rfl)) (fun _ _ _ h => h) (Or.inl ⟨by rfl, ?_⟩) hHeld ?_ ?_
                          rotate_left
                          · rintro w' ⟨s0, s1, s2, s3, s4, s5, s6, s7, s8⟩
                            go_simp
                            with_reducible rfl
                          rotate_left
                          · simp only [Act.put, List.setIfInBounds_toArray, List.set_cons_zero, List.set_cons_succ, i64_w, i32_w]
                            rfl
                          refine one_ (i := 3) (N := some 80) #[true, true, true, true, true, true, true, false, true, true, true, false, false, false, false, false, false, false, false, false] rfl rfl (one_of HT_.out (by kernel_rfl)) (by decide) (fun K hK => ?_)
                          refine goes_ Try.func12 (by kernel_rfl) rfl #[.agg #[.bool false, .slice Ao48 y205.length co48, .slice Ao47 y214.length co47], .int .i64 a2, .int .u32 a3] (by rfl) rfl rfl (by (try simp only [List.map_toArray, List.map_cons, List.map_nil]); first | done | rfl | (simp only [List.length_drop, List.length_take]; rfl)) ?_
                          with_reducible refine (policy_Policy_Label.calls k2 false _ _ y205 _ _ y214 a2 a3 t231 _ ?side1 ?side2 ?side3 ?side4 A59.out).mono ?_
                          (case side1 => repeat (first | exact (Kd.R_reads' HO_218001.out).2.2 | (with_reducible refine Kd.C_alloc ?_ _) | (with_reducible refine Kd.C_drewN ?_ _) | (with_reducible refine Kd.C_drew ?_)))
                          (case side2 => exact (Kd.R_reads' HO_218001.out).2.1)
                          (case side3 => repeat (first | exact (Kd.R_reads' HO_218002.out).2.2 | (with_reducible refine Kd.C_alloc ?_ _) | (with_reducible refine Kd.C_drewN ?_ _) | (with_reducible refine Kd.C_drew ?_)))
                          (case side4 => exact (Kd.R_reads' HO_218002.out).2.1)
                          rintro e w73 ⟨rfl, hb⟩
                          refine ⟨_, rfl, ?_⟩
                          have n0_ := Aside0.mk (Kd.R_below (by (with_reducible repeat (first | apply Kd.R_alloc | apply Kd.R_drewN | apply Kd.R_drew)); exact HO_12.out) hb)
                          have n1_ := Aside0.mk (Kd.R_below (by (with_reducible repeat (first | apply Kd.R_alloc | apply Kd.R_drewN | apply Kd.R_drew)); exact HO_13.out) hb)
                          have n2_ := Aside0.mk (Kd.R_below (by (with_reducible repeat (first | apply Kd.R_alloc | apply Kd.R_drewN | apply Kd.R_drew)); exact HO_14.out) hb)
                          have n3_ := Aside0.mk (Kd.R_below (by (with_reducible repeat (first | apply Kd.R_alloc | apply Kd.R_drewN | apply Kd.R_drew)); exact HO_218001.out) hb)
                          have n4_ := Aside0.mk (Kd.R_below (by (with_reducible repeat (first | apply Kd.R_alloc | apply Kd.R_drewN | apply Kd.R_drew)); exact HO_218002.out) hb)
                          have n5_ := Aside0.mk (blk_below (g := gb194) (o := .cells #[.bool a0_0, .slice A0_1 l0_1.length c0_1, .slice A0_2 l0_2.length c0_2] 26 (0, 0)) (by (with_reducible repeat (first | refine blk_drewN ?_ _ | refine blk_drew ?_ | refine blk_alloc ?_ _)); exact BK194.out) hb)
                          have n6_ := Aside0.mk (blk_below (g := gb195) (o := .cells #[.bool a1_0, .slice A1_1 l1_1.length c1_1, .slice A1_2 l1_2.length c1_2] 26 (0, 0)) (by (with_reducible repeat (first | refine blk_drewN ?_ _ | refine blk_drew ?_ | refine blk_alloc ?_ _)); exact BK195.out) hb)
                          have n7_ := Aside0.mk (blk_below (g := gb217) (o := .cells #[.bool false, .slice Ao48 y205.length co48, .slice Ao47 y214.length co47] 26 (0, 0)) (by (with_reducible repeat (first | refine blk_drewN ?_ _ | refine blk_drew ?_ | refine blk_alloc ?_ _)); exact BK217.out) hb)
                          have n8_ := Aside0.mk (below_step (by repeat (first | (with_reducible first | exact HB.out | apply below_alloc | apply pw_below_drewN | apply below_drew1 | refine below_set ?_ GE194.out | refine below_set ?_ GE195.out | refine below_set ?_ GE217.out) | exact HB.out)) hb)
                          clear HO_12
                          clear HO_13
                          clear HO_14
                          clear HO_218001
                          clear HO_218002
                          clear BK194
                          clear BK195
                          clear BK217
                          clear HB
                          have HO_12 := n0_
                          have HO_13 := n1_
                          have HO_14 := n2_
                          have HO_218001 := n3_
                          have HO_218002 := n4_
                          have BK194 := n5_
                          have BK195 := n6_
                          have BK217 := n7_
                          have HB := n8_
                          clear n0_ n1_ n2_ n3_ n4_ n5_ n6_ n7_ n8_
                          (try clear hb)
                          (try clear hb2)
                          (try clear hk)
                          (try clear hi)
                          refine hK.out _ _ ⟨(blk_cell BK217.out 0).trans rfl, (blk_cell BK217.out 1).trans rfl, (blk_cell BK217.out 2).trans rfl, (blk_cell BK194.out 0).trans rfl, (blk_cell BK194.out 1).trans rfl, (blk_cell BK194.out 2).trans rfl, (blk_cell BK195.out 0).trans rfl, (blk_cell BK195.out 1).trans rfl, (blk_cell BK195.out 2).trans rfl⟩ (fun hHeld => ?_)
                          clear hK K
                          refine norm_ (a' := ?_) ?_ ?_
                          rotate_left
                          · show Act.put _ (some 80) _ = _
                            simp only [Act.put, List.setIfInBounds_toArray, List.set_cons_zero, List.set_cons_succ, i64_w, i32_w]
                            rfl
                          refine one_ (i := 7) (N := some 84) #[true, true, true, true, true, true, true, true, true, true, true, false, false, false, false, false, false, false, false, false] rfl rfl (one_of HT_.out (by kernel_rfl)) (by decide) (fun K hK => ?_)
                          refine goes_ Try.func12 (by kernel_rfl) rfl #[.agg #[.bool a0_0, .slice A0_1 l0_1.length c0_1, .slice A0_2 l0_2.length c0_2], .int .i64 a2, .int .u32 a3] (by rfl) rfl rfl (by (try simp only [List.map_toArray, List.map_cons, List.map_nil]); first | done | rfl | (simp only [List.length_drop, List.length_take]; rfl)) ?_
                          with_reducible refine (policy_Policy_Label.calls k2 a0_0 _ _ l0_1 _ _ l0_2 a2 a3 t232 _ ?side1 ?side2 ?side3 ?side4 A60.out).mono ?_
                          (case side1 => repeat (first | exact (Kd.C_below HR0_1.out HB.out) | (with_reducible refine Kd.C_alloc ?_ _) | (with_reducible refine Kd.C_drewN ?_ _) | (with_reducible refine Kd.C_drew ?_)))
                          (case side2 => exact HC0_1.out)
                          (case side3 => repeat (first | exact (Kd.C_below HR0_2.out HB.out) | (with_reducible refine Kd.C_alloc ?_ _) | (with_reducible refine Kd.C_drewN ?_ _) | (with_reducible refine Kd.C_drew ?_)))
                          (case side4 => exact HC0_2.out)
                          rintro e w74 ⟨rfl, hb⟩
                          refine ⟨_, rfl, ?_⟩
                          have n0_ := Aside0.mk (Kd.R_below (by (with_reducible repeat (first | apply Kd.R_alloc | apply Kd.R_drewN | apply Kd.R_drew)); exact HO_12.out) hb)
                          have n1_ := Aside0.mk (Kd.R_below (by (with_reducible repeat (first | apply Kd.R_alloc | apply Kd.R_drewN | apply Kd.R_drew)); exact HO_13.out) hb)
                          have n2_ := Aside0.mk (Kd.R_below (by (with_reducible repeat (first | apply Kd.R_alloc | apply Kd.R_drewN | apply Kd.R_drew)); exact HO_14.out) hb)
                          have n3_ := Aside0.mk (Kd.R_below (by (with_reducible repeat (first | apply Kd.R_alloc | apply Kd.R_drewN | apply Kd.R_drew)); exact HO_218001.out) hb)
                          have n4_ := Aside0.mk (Kd.R_below (by (with_reducible repeat (first | apply Kd.R_alloc | apply Kd.R_drewN | apply Kd.R_drew)); exact HO_218002.out) hb)
                          have n5_ := Aside0.mk (blk_below (g := gb194) (o := .cells #[.bool a0_0, .slice A0_1 l0_1.length c0_1, .slice A0_2 l0_2.length c0_2] 26 (0, 0)) (by (with_reducible repeat (first | refine blk_drewN ?_ _ | refine blk_drew ?_ | refine blk_alloc ?_ _)); exact BK194.out) hb)
                          have n6_ := Aside0.mk (blk_below (g := gb195) (o := .cells #[.bool a1_0, .slice A1_1 l1_1.length c1_1, .slice A1_2 l1_2.length c1_2] 26 (0, 0)) (by (with_reducible repeat (first | refine blk_drewN ?_ _ | refine blk_drew ?_ | refine blk_alloc ?_ _)); exact BK195.out) hb)
                          have n7_ := Aside0.mk (blk_below (g := gb217) (o := .cells #[.bool false, .slice Ao48 y205.length co48, .slice Ao47 y214.length co47] 26 (0, 0)) (by (with_reducible repeat (first | refine blk_drewN ?_ _ | refine blk_drew ?_ | refine blk_alloc ?_ _)); exact BK217.out) hb)
                          have n8_ := Aside0.mk (below_step (by repeat (first | (with_reducible first | exact HB.out | apply below_alloc | apply pw_below_drewN | apply below_drew1 | refine below_set ?_ GE194.out | refine below_set ?_ GE195.out | refine below_set ?_ GE217.out) | exact HB.out)) hb)
                          clear HO_12
                          clear HO_13
                          clear HO_14
                          clear HO_218001
                          clear HO_218002
                          clear BK194
                          clear BK195
                          clear BK217
                          clear HB
                          have HO_12 := n0_
                          have HO_13 := n1_
                          have HO_14 := n2_
                          have HO_218001 := n3_
                          have HO_218002 := n4_
                          have BK194 := n5_
                          have BK195 := n6_
                          have BK217 := n7_
                          have HB := n8_
                          clear n0_ n1_ n2_ n3_ n4_ n5_ n6_ n7_ n8_
                          (try clear hb)
                          (try clear hb2)
                          (try clear hk)
                          (try clear hi)
                          refine hK.out _ _ ⟨(blk_cell BK217.out 0).trans rfl, (blk_cell BK217.out 1).trans rfl, (blk_cell BK217.out 2).trans rfl, (blk_cell BK194.out 0).trans rfl, (blk_cell BK194.out 1).trans rfl, (blk_cell BK194.out 2).trans rfl, (blk_cell BK195.out 0).trans rfl, (blk_cell BK195.out 1).trans rfl, (blk_cell BK195.out 2).trans rfl⟩ (fun hHeld => ?_)
                          clear hK K
                          refine norm_ (a' := ?_) ?_ ?_
                          rotate_left
                          · show Act.put _ (some 84) _ = _
                            simp only [Act.put, List.setIfInBounds_toArray, List.set_cons_zero, List.set_cons_succ, i64_w, i32_w]
                            rfl
                          refine one_ (i := 11) (N := some 88) #[true, true, true, true, true, true, true, true, true, true, true, true, false, false, false, false, false, false, false, false] rfl rfl (one_of HT_.out (by kernel_rfl)) (by decide) (fun K hK => ?_)
                          refine goes_ Try.func12 (by kernel_rfl) rfl #[.agg #[.bool a1_0, .slice A1_1 l1_1.length c1_1, .slice A1_2 l1_2.length c1_2], .int .i64 a2, .int .u32 a3] (by rfl) rfl rfl (by (try simp only [List.map_toArray, List.map_cons, List.map_nil]); first | done | rfl | (simp only [List.length_drop, List.length_take]; rfl)) ?_
                          with_reducible refine (policy_Policy_Label.calls k2 a1_0 _ _ l1_1 _ _ l1_2 a2 a3 t233 _ ?side1 ?side2 ?side3 ?side4 A61.out).mono ?_
                          (case side1 => repeat (first | exact (Kd.C_below HR1_1.out HB.out) | (with_reducible refine Kd.C_alloc ?_ _) | (with_reducible refine Kd.C_drewN ?_ _) | (with_reducible refine Kd.C_drew ?_)))
                          (case side2 => exact HC1_1.out)
                          (case side3 => repeat (first | exact (Kd.C_below HR1_2.out HB.out) | (with_reducible refine Kd.C_alloc ?_ _) | (with_reducible refine Kd.C_drewN ?_ _) | (with_reducible refine Kd.C_drew ?_)))
                          (case side4 => exact HC1_2.out)
                          rintro e w75 ⟨rfl, hb⟩
                          refine ⟨_, rfl, ?_⟩
                          have n0_ := Aside0.mk (Kd.R_below (by (with_reducible repeat (first | apply Kd.R_alloc | apply Kd.R_drewN | apply Kd.R_drew)); exact HO_12.out) hb)
                          have n1_ := Aside0.mk (Kd.R_below (by (with_reducible repeat (first | apply Kd.R_alloc | apply Kd.R_drewN | apply Kd.R_drew)); exact HO_13.out) hb)
                          have n2_ := Aside0.mk (Kd.R_below (by (with_reducible repeat (first | apply Kd.R_alloc | apply Kd.R_drewN | apply Kd.R_drew)); exact HO_14.out) hb)
                          have n3_ := Aside0.mk (Kd.R_below (by (with_reducible repeat (first | apply Kd.R_alloc | apply Kd.R_drewN | apply Kd.R_drew)); exact HO_218001.out) hb)
                          have n4_ := Aside0.mk (Kd.R_below (by (with_reducible repeat (first | apply Kd.R_alloc | apply Kd.R_drewN | apply Kd.R_drew)); exact HO_218002.out) hb)
                          have n5_ := Aside0.mk (blk_below (g := gb194) (o := .cells #[.bool a0_0, .slice A0_1 l0_1.length c0_1, .slice A0_2 l0_2.length c0_2] 26 (0, 0)) (by (with_reducible repeat (first | refine blk_drewN ?_ _ | refine blk_drew ?_ | refine blk_alloc ?_ _)); exact BK194.out) hb)
                          have n6_ := Aside0.mk (blk_below (g := gb195) (o := .cells #[.bool a1_0, .slice A1_1 l1_1.length c1_1, .slice A1_2 l1_2.length c1_2] 26 (0, 0)) (by (with_reducible repeat (first | refine blk_drewN ?_ _ | refine blk_drew ?_ | refine blk_alloc ?_ _)); exact BK195.out) hb)
                          have n7_ := Aside0.mk (blk_below (g := gb217) (o := .cells #[.bool false, .slice Ao48 y205.length co48, .slice Ao47 y214.length co47] 26 (0, 0)) (by (with_reducible repeat (first | refine blk_drewN ?_ _ | refine blk_drew ?_ | refine blk_alloc ?_ _)); exact BK217.out) hb)
                          have n8_ := Aside0.mk (below_step (by repeat (first | (with_reducible first | exact HB.out | apply below_alloc | apply pw_below_drewN | apply below_drew1 | refine below_set ?_ GE194.out | refine below_set ?_ GE195.out | refine below_set ?_ GE217.out) | exact HB.out)) hb)
                          clear HO_12
                          clear HO_13
                          clear HO_14
                          clear HO_218001
                          clear HO_218002
                          clear BK194
                          clear BK195
                          clear BK217
                          clear HB
                          have HO_12 := n0_
                          have HO_13 := n1_
                          have HO_14 := n2_
                          have HO_218001 := n3_
                          have HO_218002 := n4_
                          have BK194 := n5_
                          have BK195 := n6_
                          have BK217 := n7_
                          have HB := n8_
                          clear n0_ n1_ n2_ n3_ n4_ n5_ n6_ n7_ n8_
                          (try clear hb)
                          (try clear hb2)
                          (try clear hk)
                          (try clear hi)
                          refine hK.out _ _ ⟨(blk_cell BK217.out 0).trans rfl, (blk_cell BK217.out 1).trans rfl, (blk_cell BK217.out 2).trans rfl, (blk_cell BK194.out 0).trans rfl, (blk_cell BK194.out 1).trans rfl, (blk_cell BK194.out 2).trans rfl, (blk_cell BK195.out 0).trans rfl, (blk_cell BK195.out 1).trans rfl, (blk_cell BK195.out 2).trans rfl⟩ (fun hHeld => ?_)
                          clear hK K
                          refine norm_ (a' := ?_) ?_ ?_
                          rotate_left
                          · show Act.put _ (some 88) _ = _
                            simp only [Act.put, List.setIfInBounds_toArray, List.set_cons_zero, List.set_cons_succ, i64_w, i32_w]
                            rfl
                          refine pure_ (i := 12) (N := some 89) (v := ?_) (a' := ?_) #[true, true, true, true, true, true, true, true, true, true, true, true, true, false, false, false, false, false, false, false] rfl rfl (any_of HT_.out (by kernel_rfl)) (fun _ _ _ h => h) (Or.inl ⟨by rfl, ?_⟩) ?_ ?_
                          rotate_left
                          · intro w'
                            go_simp
                            with_reducible rfl
                          rotate_left
                          · simp only [Act.put, List.setIfInBounds_toArray, List.set_cons_zero, List.set_cons_succ, i64_w, i32_w]
                            rfl
                          refine pure_ (i := 13) (N := some 90) (v := ?_) (a' := ?_) #[true, true, true, true, true, true, true, true, true, true, true, true, true, true, false, false, false, false, false, false] rfl rfl (any_of HT_.out (by kernel_rfl)) (fun _ _ _ h => h) (Or.inl ⟨by rfl, ?_⟩) ?_ ?_
                          rotate_left
                          · intro w'
                            go_simp
                            with_reducible rfl
                          rotate_left
                          · simp only [Act.put, List.setIfInBounds_toArray, List.set_cons_zero, List.set_cons_succ, i64_w, i32_w]
                            rfl
                          refine pure_ (i := 14) (N := some 91) (v := ?_) (a' := ?_) #[true, true, true, true, true, true, true, true, true, true, true, true, true, true, true, false, false, false, false, false] rfl rfl (any_of HT_.out (by kernel_rfl)) (fun _ _ _ h => h) (Or.inl ⟨by rfl, ?_⟩) ?_ ?_
                          rotate_left
                          · intro w'
                            go_simp
                            with_reducible rfl
                          rotate_left
                          · simp only [Act.put, List.setIfInBounds_toArray, List.set_cons_zero, List.set_cons_succ, i64_w, i32_w]
                            rfl
                          refine pure_ (i := 15) (N := some 92) (v := undef) (a' := ?_) #[true, true, true, true, true, true, true, true, true, true, true, true, true, true, true, true, false, false, false, false] rfl rfl (any_of HT_.out (by kernel_rfl)) (fun _ _ _ h => h) (Or.inr ⟨by rfl, rfl⟩) ?_ ?_
                          rotate_left
                          · simp only [Act.put, List.setIfInBounds_toArray, List.set_cons_zero, List.set_cons_succ, i64_w, i32_w]
                            rfl
                          refine pure_ (i := 16) (N := some 93) (v := undef) (a' := ?_) #[true, true, true, true, true, true, true, true, true, true, true, true, true, true, true, true, true, false, false, false] rfl rfl (any_of HT_.out (by kernel_rfl)) (fun _ _ _ h => h) (Or.inr ⟨by rfl, rfl⟩) ?_ ?_
                          rotate_left
                          · simp only [Act.put, List.setIfInBounds_toArray, List.set_cons_zero, List.set_cons_succ, i64_w, i32_w]
                            rfl
                          refine pure_ (i := 17) (N := some 94) (v := undef) (a' := ?_) #[true, true, true, true, true, true, true, true, true, true, true, true, true, true, true, true, true, true, false, false] rfl rfl (any_of HT_.out (by kernel_rfl)) (fun _ _ _ h => h) (Or.inr ⟨by rfl, rfl⟩) ?_ ?_
                          rotate_left
                          · simp only [Act.put, List.setIfInBounds_toArray, List.set_cons_zero, List.set_cons_succ, i64_w, i32_w]
                            rfl
                          refine pure_ (i := 18) (N := some 95) (v := ?_) (a' := ?_) #[true, true, true, true, true, true, true, true, true, true, true, true, true, true, true, true, true, true, true, false] rfl rfl (any_of HT_.out (by kernel_rfl)) (fun _ _ _ h => h) (Or.inl ⟨by rfl, ?_⟩) ?_ ?_
                          rotate_left
                          · intro w'
                            go_simp
                            with_reducible rfl
                          rotate_left
                          · simp only [Act.put, List.setIfInBounds_toArray, List.set_cons_zero, List.set_cons_succ, i64_w, i32_w]
                            rfl
                          refine pure_ (i := 19) (N := some 10) (v := ?_) (a' := ?_) #[true, true, true, true, true, true, true, true, true, true, true, true, true, true, true, true, true, true, true, true] rfl rfl (any_of HT_.out (by kernel_rfl)) (fun _ _ _ h => h) (Or.inl ⟨by rfl, ?_⟩) ?_ ?_
                          rotate_left
                          · intro w'
                            go_simp
                            with_reducible rfl
                          rotate_left
                          · simp only [Act.put, List.setIfInBounds_toArray, List.set_cons_zero, List.set_cons_succ, i64_w, i32_w]
                            rfl
                          refine done_ (done_of HT_.out (by kernel_rfl)) ?_
                          try go_wp2
                          go_ret
                          exact ⟨by first | rfl | (simp [errW_none, errW_some] <;> rfl) | (simp [*, errW_none, errW_some] <;> rfl), by repeat (first | (with_reducible first | exact HB.out | apply below_alloc | apply pw_below_drewN | apply below_drew1 | refine below_set ?_ GE194.out | refine below_set ?_ GE195.out | refine below_set ?_ GE217.out) | exact HB.out)⟩
                · rw [if_neg c27] at H
                  exact absurd H (by simp)
              · rw [if_neg c26] at H
                exact absurd H (by simp)
            · rw [if_neg c25] at H
              exact absurd H (by simp)
          · rw [if_neg c24] at H
            exact absurd H (by simp)
  · replace c7 := Bool.eq_false_iff.mpr c7
    subst c7
    have H1 : (some false) = some r := by rw [if_neg (show ¬ (false = true) by decide)] at H; exact H
    clear H
    have H := H1
    clear H1
    obtain rfl := Option.some.inj H
    go_enter Try.func8, Try.ntmps8
    go_wp2_with (first | ((with_reducible refine gate_dst (N := 5) rfl ?_); refine box_event ?hg (N := 5) ?hd (cs := #[.bool a0_0, .slice A0_1 l0_1.length c0_1, .slice A0_2 l0_2.length c0_2]) (t := 26) ?hr ?_; (case hd => rfl); (case hg => rfl); (case hr => first | (go_simp; done) | (go_simp; rfl)); intro gb194 hg w76 hbox hb; have n0_ := Aside0.mk (below_step (by repeat (first | (with_reducible first | exact HB.out | apply below_alloc | apply pw_below_drewN | apply below_drew1) | exact HB.out)) hb); have n1_ := Aside0.mk (hbox); have n2_ := Aside0.mk ((by rw [hg]; exact (below_size (by repeat (first | (with_reducible first | exact HB.out | apply below_alloc | apply pw_below_drewN | apply below_drew1) | exact HB.out))) : w.heap.size ≤ gb194)); have n3_ := Aside0.mk ((by rw [hg]; exact (below_size (by repeat (first | (with_reducible first | exact HB.out | apply below_alloc | apply pw_below_drewN | apply below_drew1) | exact HB.out))) : w.heap.size ≤ gb194)); clear HB; have HB := n0_; have BK194 := n1_; have GW194 := n2_; have GE194 := n3_; clear n0_ n1_ n2_ n3_; clear hb hbox hg) | ((with_reducible refine gate_dst (N := 6) rfl ?_); refine box_event ?hg (N := 6) ?hd (cs := #[.bool a1_0, .slice A1_1 l1_1.length c1_1, .slice A1_2 l1_2.length c1_2]) (t := 26) ?hr ?_; (case hd => rfl); (case hg => rfl); (case hr => first | (go_simp; done) | (go_simp; rfl)); intro gb195 hg w77 hbox hb; have n0_ := Aside0.mk (blk_below (g := gb194) (o := .cells #[.bool a0_0, .slice A0_1 l0_1.length c0_1, .slice A0_2 l0_2.length c0_2] 26 (0, 0)) (by (with_reducible repeat (first | refine blk_drewN ?_ _ | refine blk_drew ?_ | refine blk_alloc ?_ _)); exact BK194.out) hb); have n1_ := Aside0.mk (below_step (by repeat (first | (with_reducible first | exact HB.out | apply below_alloc | apply pw_below_drewN | apply below_drew1 | refine below_set ?_ GE194.out) | exact HB.out)) hb); have n2_ := Aside0.mk (hbox); have n3_ := Aside0.mk ((by rw [hg]; exact (below_size (by repeat (first | (with_reducible first | exact HB.out | apply below_alloc | apply pw_below_drewN | apply below_drew1 | refine below_set ?_ GE194.out) | exact HB.out))) : w.heap.size ≤ gb195)); have n4_ := Aside0.mk ((by rw [hg]; exact (below_size (by repeat (first | (with_reducible first | exact HB.out | apply below_alloc | apply pw_below_drewN | apply below_drew1 | refine below_set ?_ GE194.out) | exact HB.out))) : w.heap.size ≤ gb195)); have n5_ := Aside0.mk ((by rw [hg]; exact Nat.ne_of_lt (blk_lt (g := gb194) (o := .cells #[.bool a0_0, .slice A0_1 l0_1.length c0_1, .slice A0_2 l0_2.length c0_2] 26 (0, 0)) (by (with_reducible repeat (first | refine blk_drewN ?_ _ | refine blk_drew ?_ | refine blk_alloc ?_ _)); exact BK194.out)) : gb194 ≠ gb195)); have n6_ := Aside0.mk ((by rw [hg]; exact Nat.ne_of_gt (blk_lt (g := gb194) (o := .cells #[.bool a0_0, .slice A0_1 l0_1.length c0_1, .slice A0_2 l0_2.length c0_2] 26 (0, 0)) (by (with_reducible repeat (first | refine blk_drewN ?_ _ | refine blk_drew ?_ | refine blk_alloc ?_ _)); exact BK194.out)) : gb195 ≠ gb194)); clear BK194; clear HB; have BK194 := n0_; have HB := n1_; have BK195 := n2_; have GW195 := n3_; have GE195 := n4_; have NB194_195 := n5_; have NB195_194 := n6_; clear n0_ n1_ n2_ n3_ n4_ n5_ n6_; clear hb hbox hg) | ((with_reducible refine gate_callee (f := 9) rfl ?_); refine goesL_ (some 16) rfl rfl Try.func9 (by kernel_rfl) rfl #[] rfl (by (try simp only [List.map_toArray, List.map_cons, List.map_nil]); first | done | rfl | (simp only [List.length_drop, List.length_take]; rfl)) ?_; (with_reducible refine (tincturelaw7_awake.calls  false _ A6.out).mono ?_); rintro e w78 ⟨rfl, hb⟩; refine ⟨_, rfl, ?_⟩; have n0_ := Aside0.mk (blk_below (g := gb194) (o := .cells #[.bool a0_0, .slice A0_1 l0_1.length c0_1, .slice A0_2 l0_2.length c0_2] 26 (0, 0)) (by (with_reducible repeat (first | refine blk_drewN ?_ _ | refine blk_drew ?_ | refine blk_alloc ?_ _)); exact BK194.out) hb); have n1_ := Aside0.mk (blk_below (g := gb195) (o := .cells #[.bool a1_0, .slice A1_1 l1_1.length c1_1, .slice A1_2 l1_2.length c1_2] 26 (0, 0)) (by (with_reducible repeat (first | refine blk_drewN ?_ _ | refine blk_drew ?_ | refine blk_alloc ?_ _)); exact BK195.out) hb); have n2_ := Aside0.mk (below_step (by repeat (first | (with_reducible first | exact HB.out | apply below_alloc | apply pw_below_drewN | apply below_drew1 | refine below_set ?_ GE194.out | refine below_set ?_ GE195.out) | exact HB.out)) hb); clear BK194; clear BK195; clear HB; have BK194 := n0_; have BK195 := n1_; have HB := n2_; clear n0_ n1_ n2_; (try clear hb); (try clear hb2); (try clear hk); (try clear hi)))
    go_ret
    exact ⟨by first | rfl | (simp [errW_none, errW_some] <;> rfl) | (simp [*, errW_none, errW_some] <;> rfl), by repeat (first | (with_reducible first | exact HB.out | apply below_alloc | apply pw_below_drewN | apply below_drew1 | refine below_set ?_ GE194.out | refine below_set ?_ GE195.out) | exact HB.out)⟩

end Go.Proofs.Ytlhoaejkjhdlgaa.PPolicyBytes
