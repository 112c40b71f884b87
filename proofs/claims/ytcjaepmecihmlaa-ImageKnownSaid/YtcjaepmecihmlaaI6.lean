/- What put, Put, img answer (its lines began as print.sh's). -/
import Derived.Test.YtcjaepmecihmlaaI0
import Derived.Test.YtcjaepmecihmlaaI2
import Derived.Test.YtcjaepmecihmlaaI5
namespace Go.Proofs.Ytcjaepmecihmlaa.Img
open Go.RowKit Go.Proofs.YtcjaepmecihmlaaW.PrintWords Go.Proofs.YtcjaepmecihmlaaW.PrintLast Go.Proofs.YtcjaepmecihmlaaW.PrintMore
attribute [local go_sem] max2_int min2_int max_two min_two max_three min_three max_four min_four   -- for this text's walks alone
set_option linter.unusedVariables false
set_option linter.unusedSimpArgs false
/-! ### image_put: function 22 -/
mutual
def image_put.l0 : Nat → List Int → Int → List Int → Int → Int → Option (List Int)
  | 0, _, _, _, _, _ => none
  | k + 1, x0, x1, x10, x11, x12 => if x12 < x11 then (if 0 ≤ x12 then (if x12 < (x10.length : Int) then (image_put.l1 k x0 x1 (rd x10 x12) x10 x11 x12 x1 0) else (none)) else (none)) else (some x0)
def image_put.l1 : Nat → List Int → Int → Int → List Int → Int → Int → Int → Int → Option (List Int)
  | 0, _, _, _, _, _, _, _, _ => none
  | k + 1, x0, x1, x8, x10, x11, x12, x16, x17 => if x17 < x16 then (if 0 ≤ (wrap64 (8 * x17)) then (if x0.length < 140737488355328 then (image_put.l1 k (x0 ++ [(shr .u32 x8 (wrap64 (8 * x17))) % 256]) x1 x8 x10 x11 x12 x16 (wrap64 (x17 + 1))) else (none)) else (none)) else (image_put.l0 k x0 x1 x10 x11 (wrap64 (x12 + 1)))
end
def image_put.f (k : Nat) (l0 : List Int) (a1 : Int) (l2 : List Int) : Option (List Int) := image_put.l0 k l0 a1 l2 (l2.length : Int) 0
theorem image_put.mono_l : ∀ k, (∀ y0 y1 y2 y3 y4, LeO (image_put.l0 k y0 y1 y2 y3 y4) (image_put.l0 (k + 1) y0 y1 y2 y3 y4)) ∧ (∀ y0 y1 y2 y3 y4 y5 y6 y7, LeO (image_put.l1 k y0 y1 y2 y3 y4 y5 y6 y7) (image_put.l1 (k + 1) y0 y1 y2 y3 y4 y5 y6 y7))
  | 0 => ⟨fun _ _ _ _ _ r h => by simp [image_put.l0] at h, fun _ _ _ _ _ _ _ _ r h => by simp [image_put.l1] at h⟩
  | k + 1 => by
    obtain ⟨ih0, ih1⟩ := image_put.mono_l k
    refine ⟨?_, ?_⟩
    · intro y0 y1 y2 y3 y4
      unfold image_put.l0
      repeat' first
      | (with_reducible exact ih0 _ _ _ _ _)
      | (with_reducible exact ih1 _ _ _ _ _ _ _ _)
      | (with_reducible exact LeO.refl _)
      | (with_reducible exact LeO.none _)
      | (with_reducible refine LeO.ite ?_ ?_)
      | (with_reducible refine LeO.bind ?_ (fun _ => ?_))
      | exact ih0 _ _ _ _ _
      | exact ih1 _ _ _ _ _ _ _ _
      | exact LeO.none _
      | refine LeO.ite ?_ ?_
      | refine LeO.bind ?_ (fun _ => ?_)
    · intro y0 y1 y2 y3 y4 y5 y6 y7
      unfold image_put.l1
      repeat' first
      | (with_reducible exact ih0 _ _ _ _ _)
      | (with_reducible exact ih1 _ _ _ _ _ _ _ _)
      | (with_reducible exact LeO.refl _)
      | (with_reducible exact LeO.none _)
      | (with_reducible refine LeO.ite ?_ ?_)
      | (with_reducible refine LeO.bind ?_ (fun _ => ?_))
      | exact ih0 _ _ _ _ _
      | exact ih1 _ _ _ _ _ _ _ _
      | exact LeO.none _
      | refine LeO.ite ?_ ?_
      | refine LeO.bind ?_ (fun _ => ?_)
theorem image_put.mono : ∀ a0 a1 a2 k, LeO (image_put.f k a0 a1 a2) (image_put.f (k + 1) a0 a1 a2) := by
  intro a0 a1 a2 k
  obtain ⟨ih0, ih1⟩ := image_put.mono_l k
  unfold image_put.f
  repeat' first
      | (with_reducible exact ih0 _ _ _ _ _)
      | (with_reducible exact ih1 _ _ _ _ _ _ _ _)
      | (with_reducible exact LeO.refl _)
      | (with_reducible exact LeO.none _)
      | (with_reducible refine LeO.ite ?_ ?_)
      | (with_reducible refine LeO.bind ?_ (fun _ => ?_))
      | exact ih0 _ _ _ _ _
      | exact ih1 _ _ _ _ _ _ _ _
      | exact LeO.none _
      | refine LeO.ite ?_ ?_
      | refine LeO.bind ?_ (fun _ => ?_)
set_option maxHeartbeats 8000000 in
set_option maxRecDepth 100000 in
theorem image_put.calls (k : Nat) (P0_ : Nat → Prop) (u9000_ : Value) (l0 : List Int) (a1 : Int) (A2 : Option Addr) (c2 : Nat) (l2 : List Int) (r : List Int) (w0 w : World) (hB : Below w0.heap.size w0 w) (ho0 : Kd.R (Kd.int .u8) 5 w w0.heap.size P0_ u9000_ l0) (hr2 : ∀ W_, Kept w W_ (fun k_ => P0_ k_) → Kd.C (Kd.int .u32) W_ A2 l2.length l2) (hc2 : l2.length ≤ c2) (h : image_put.f k l0 a1 l2 = some r) :
    Calls Try.prog 22 #[u9000_, .int .i64 a1, .slice A2 l2.length c2] w fun e w' => ∃ v0_ : Value, e = .returned (v0_) ∧ Kd.R (Kd.int .u8) 5 w' w0.heap.size (fun k_ => (P0_ k_ ∨ w.heap.size ≤ k_)) v0_ r ∧ Below w0.heap.size w0 w' ∧ Kept w w' (fun k_ => P0_ k_) := by
  have HO0 := Aside0.mk (show Kd.R (Kd.int .u8) 5 w w0.heap.size (fun k_ => (P0_ k_ ∨ w.heap.size ≤ k_)) u9000_ l0 from Kd.R_mono ho0 (fun k_ hk => (.inl hk)))
  have HR2 := Aside0.mk hr2
  have HC2 := Aside0.mk hc2
  clear hr2 hc2
  have HK := Aside0.mk (Kept.refl w (fun k_ => P0_ k_))
  have HW0 := Aside0.mk hB.size
  have HB := Aside0.mk hB
  clear hB
  have H : (image_put.l0 k l0 a1 l2 (l2.length : Int) 0) = some r := h
  clear h
  have H' := Aside0.mk H
  clear H
  go_enter Try.func22, Try.ntmps22
  go_wp2
  go_loopg [0, 12] k (fun kq v0 v12 w' => ∃ (x0_1 : List Int) (x12_1 : Int), v12 = .int .i64 x12_1 ∧ Aside0 (image_put.l0 kq x0_1 a1 l2 (l2.length : Int) x12_1 = some r) ∧ Aside0 (kq ≤ k) ∧ Aside0 (Kd.R (Kd.int .u8) 5 w' w0.heap.size (fun k_ => (P0_ k_ ∨ w.heap.size ≤ k_)) v0 x0_1) ∧ Aside0 (Kept w w' (fun k_ => P0_ k_)) ∧ Aside0 (Below w0.heap.size w0 w'))
  case atStart => exact ⟨(l0), (0), (by first | rfl | (simp; done) | (simp [*]; done)), H', ⟨Nat.le_refl _⟩, ⟨by (with_reducible repeat (first | apply Kd.R_alloc | apply Kd.R_drewN | apply Kd.R_drew)); exact HO0.out⟩, ⟨by repeat (first | (with_reducible first | exact HK.out | apply Kept.alloc | apply Kept.drewN | apply Kept.drew) | exact HK.out)⟩, ⟨by repeat (first | (with_reducible first | exact HB.out | apply below_alloc | apply pw_below_drewN | apply below_drew1) | exact HB.out)⟩⟩
  case round =>
    clear H'
    try clear c2
    try clear p2
    obtain ⟨x0_1, x12_1, rfl, HA, HK1, HO_0, HK, HB⟩ := hrel
    cases gk with
    | zero => exact absurd HA.out (by simp [image_put.l0])
    | succ k1 =>
      have H := HA.out
      clear HA
      simp only [image_put.l0] at H
      by_cases c4 : x12_1 < (l2.length : Int)
      · rw [if_pos c4] at H
        have c4b0 : decide (x12_1 < (l2.length : Int)) = true := decide_eq_true c4
        clear c4
        by_cases c5 : 0 ≤ x12_1
        · rw [if_pos c5] at H
          have c5b0 : decide (0 ≤ x12_1) = true := decide_eq_true c5
          clear c5
          by_cases c6 : x12_1 < (l2.length : Int)
          · rw [if_pos c6] at H
            have c6b0 : decide (x12_1 < (l2.length : Int)) = true := decide_eq_true c6
            clear c6
            have H' := Aside0.mk H
            clear H
            have p186 : 0 ≤ (x12_1 : Int) := of_decide_eq_true (by first | (with_reducible assumption) | assumption)
            have q186 : x12_1 < (l2.length : Int) := of_decide_eq_true (by first | (with_reducible assumption) | assumption)
            obtain ⟨ad186, e186, hx186_0⟩ := Kd.at_int (Kd.C_kept_now HR2.out HK.out) x12_1 p186 q186
            cases e186
            replace p186 := eq_true p186
            replace q186 := eq_true q186
            go_wp2
            go_loopg [0, 17] k1 (fun kq v0 v17 w' => ∃ (x0_2 : List Int) (x17_2 : Int), v17 = .int .i64 x17_2 ∧ Aside0 (image_put.l1 kq x0_2 a1 (rd l2 x12_1) l2 (l2.length : Int) x12_1 a1 x17_2 = some r) ∧ Aside0 (kq ≤ k1) ∧ Aside0 (Kd.R (Kd.int .u8) 5 w' w0.heap.size (fun k_ => (P0_ k_ ∨ w.heap.size ≤ k_)) v0 x0_2) ∧ Aside0 (Kept w w' (fun k_ => P0_ k_)) ∧ Aside0 (Below w0.heap.size w0 w'))
            case atStart => exact ⟨(x0_1), (0), (by first | rfl | (simp; done) | (simp [*]; done)), H', ⟨Nat.le_refl _⟩, ⟨by (with_reducible repeat (first | apply Kd.R_alloc | apply Kd.R_drewN | apply Kd.R_drew)); exact HO_0.out⟩, ⟨by repeat (first | (with_reducible first | exact HK.out | apply Kept.alloc | apply Kept.drewN | apply Kept.drew) | exact HK.out)⟩, ⟨by repeat (first | (with_reducible first | exact HB.out | apply below_alloc | apply pw_below_drewN | apply below_drew1) | exact HB.out)⟩⟩
            case round =>
              clear H'
              try clear p1
              try clear q1
              try clear hx1
              try clear c2
              try clear p2
              try clear c4
              try clear c4b0
              try clear c5
              try clear c5b0
              try clear c6
              try clear c6b0
              try clear hx186_0
              try clear p186
              try clear p2
              try clear q186
              obtain ⟨x0_2, x17_2, rfl, HA, HK2, HO_0, HK, HB⟩ := hrel
              cases gk with
              | zero => exact absurd HA.out (by simp [image_put.l1])
              | succ k2 =>
                have H := HA.out
                clear HA
                simp only [image_put.l1] at H
                by_cases c7 : x17_2 < a1
                · rw [if_pos c7] at H
                  have c7b0 : decide (x17_2 < a1) = true := decide_eq_true c7
                  clear c7
                  obtain ⟨ji8, hji8⟩ : ∃ j_ : Int, (wrap64 (8 * x17_2)) = j_ := ⟨_, rfl⟩
                  replace H : (if 0 ≤ (ji8) then (if x0_2.length < 140737488355328 then (image_put.l1 k2 (x0_2 ++ [(shr .u32 (rd l2 x12_1) (ji8)) % 256]) a1 (rd l2 x12_1) l2 (l2.length : Int) x12_1 a1 (wrap64 (x17_2 + 1))) else (none)) else (none)) = some r := by first | (rw [hji8] at H; exact H) | (simp only [hji8] at H ⊢; exact H)
                  have hji8w : (IntKind.i64.wrap (8 * x17_2)) = ji8 := (i64_w _).trans hji8
                  by_cases c9 : 0 ≤ (ji8)
                  · rw [if_pos c9] at H
                    have c9b0 := eq_true c9
                    have c9b1 : decide (0 ≤ (ji8)) = true := decide_eq_true c9
                    clear c9
                    obtain ⟨ji10, hji10⟩ : ∃ j_ : Int, (shr .u32 (rd l2 x12_1) (ji8)) = j_ := ⟨_, rfl⟩
                    replace H : (if x0_2.length < 140737488355328 then (image_put.l1 k2 (x0_2 ++ [(ji10) % 256]) a1 (rd l2 x12_1) l2 (l2.length : Int) x12_1 a1 (wrap64 (x17_2 + 1))) else (none)) = some r := by first | (rw [hji10] at H; exact H) | (simp only [hji10] at H ⊢; exact H)
                    have hji10_ : ((rd l2 x12_1) / 2 ^ min (ji8).toNat 32) = ji10 := hji10
                    have hji10z : (ji8) ≤ 32 → ((rd l2 x12_1) / 2 ^ (ji8).toNat) = ji10 := shr_small hji10
                    by_cases c11 : x0_2.length < 140737488355328
                    · rw [if_pos c11] at H
                      have LMc11 := Aside0.mk c11
                      clear c11
                      obtain ⟨y187, hy187⟩ : ∃ y_ : List Int, y_ = (x0_2 ++ [(ji10) % 256]) := ⟨_, rfl⟩
                      replace H : (image_put.l1 k2 y187 a1 (rd l2 x12_1) l2 (l2.length : Int) x12_1 a1 (wrap64 (x17_2 + 1))) = some r := by first | (rw [hy187]; with_reducible exact H) | (have H2_ := (Option.bind_some _ _).symm.trans H; rw [hy187]; with_reducible exact H2_) | (have H2_ := (Option.bind_some _ _).symm.trans H; with_reducible exact H2_) | with_reducible exact H | (rw [hy187]; exact H) | exact H
                      have Ny187 := Aside0.mk hy187
                      clear hy187
                      have H' := Aside0.mk H
                      clear H
                      go_wp2_with (first | ((with_reducible refine gate_builtin (b := .append) (xs := #[.tmp 20, .tmp 26]) rfl ?_); at_builtin; refine Kd.R_append (Kd.int .u8) (w0 := w0) w0.heap.size rfl (.tmp 20) (.tmp 26) 28 5 (.int .u8 0) 1 rfl Try.underlying28 info5 rfl (by decide) (by omega) u0 x0_2 ((ji10) % 256) [.int .u8 ((ji10) % 256)] (fun k_ => (P0_ k_ ∨ w.heap.size ≤ k_)) (fun _ => False) rfl rfl ?aP (fun _ hk => hk.elim) ?aF ?aO ?aB ?aS ?aL ?_; (case aP => exact rfl); (case aB => exact (by with_reducible repeat (first | exact HB.out | apply below_alloc | apply pw_below_drewN | apply below_drew1))); (case aF => exact (fun k_ hk => (.inr (Nat.le_trans (by first | exact HK.out.1 | exact (show Kept w _ (fun k_ => P0_ k_) from by repeat (first | (with_reducible first | exact HK.out | apply Kept.alloc | apply Kept.drewN | apply Kept.drew) | exact HK.out)).1) hk)))); (case aO => exact (by (with_reducible repeat (first | apply Kd.R_alloc | apply Kd.R_drewN | apply Kd.R_drew)); exact HO_0.out)); (case aS => exact (below_size (by with_reducible repeat (first | exact HB.out | apply below_alloc | apply pw_below_drewN | apply below_drew1)))); (case aL => have := LMc11.out; omega); intro v188 w12 ho hb hg hat; rw [← Ny187.out] at ho; have n0_ := Aside0.mk (hb); have n1_ := Aside0.mk (Kept.of_grown (S := (fun k_ => P0_ k_)) hg (by repeat (first | (with_reducible first | exact HK.out | apply Kept.alloc | apply Kept.drewN | apply Kept.drew) | exact HK.out)) (fun k_ e_ => (HO_0.out.1 k_ e_))); have n2_ := Aside0.mk (ho); clear HB; clear HK; clear HO_0; have HB := n0_; have HK := n1_; have HO189 := n2_; clear n0_ n1_ n2_; clear ho hb hg hat))
                      go_roundg k2
                      case measure => have := HK1.out; have := HK2.out; omega
                      case rel => exact ⟨(y187), (wrap64 (x17_2 + 1)), (by first | rfl | (simp; done) | (simp [*]; done)), H', ⟨by have := HK1.out; have := HK2.out; omega⟩, ⟨by (with_reducible repeat (first | apply Kd.R_alloc | apply Kd.R_drewN | apply Kd.R_drew)); exact HO189.out⟩, ⟨by repeat (first | (with_reducible first | exact HK.out | apply Kept.alloc | apply Kept.drewN | apply Kept.drew) | exact HK.out)⟩, ⟨by repeat (first | (with_reducible first | exact HB.out | apply below_alloc | apply pw_below_drewN | apply below_drew1) | exact HB.out)⟩⟩
                    · rw [if_neg c11] at H
                      exact absurd H (by simp)
                  · rw [if_neg c9] at H
                    exact absurd H (by simp)
                · rw [if_neg c7] at H
                  have c7b0 : decide (x17_2 < a1) = false := decide_eq_false c7
                  clear c7
                  have H' := Aside0.mk H
                  clear H
                  go_wp2
                  go_roundg k2
                  case measure => have := HK1.out; have := HK2.out; omega
                  case rel => exact ⟨(x0_2), (wrap64 (x12_1 + 1)), (by first | rfl | (simp; done) | (simp [*]; done)), H', ⟨by have := HK1.out; have := HK2.out; omega⟩, ⟨by (with_reducible repeat (first | apply Kd.R_alloc | apply Kd.R_drewN | apply Kd.R_drew)); exact HO_0.out⟩, ⟨by repeat (first | (with_reducible first | exact HK.out | apply Kept.alloc | apply Kept.drewN | apply Kept.drew) | exact HK.out)⟩, ⟨by repeat (first | (with_reducible first | exact HB.out | apply below_alloc | apply pw_below_drewN | apply below_drew1) | exact HB.out)⟩⟩
          · rw [if_neg c6] at H
            exact absurd H (by simp)
        · rw [if_neg c5] at H
          exact absurd H (by simp)
      · rw [if_neg c4] at H
        have c4b0 : decide (x12_1 < (l2.length : Int)) = false := decide_eq_false c4
        clear c4
        obtain rfl := Option.some.inj H
        go_wp2
        go_ret
        exact ⟨_, by first | rfl | (simp [errW_none, errW_some] <;> rfl) | (simp [*, errW_none, errW_some] <;> rfl), by (with_reducible repeat (first | apply Kd.R_alloc | apply Kd.R_drewN | apply Kd.R_drew)); exact HO_0.out, by repeat (first | (with_reducible first | exact HB.out | apply below_alloc | apply pw_below_drewN | apply below_drew1) | exact HB.out), by repeat (first | (with_reducible first | exact HK.out | apply Kept.alloc | apply Kept.drewN | apply Kept.drew) | exact HK.out)⟩
/-! ### image_Put: function 11 -/
def image_Put.l0 : Nat → List Int → Int → List Int → List (S30) → Int → Int → Option (List Int × Int)
  | 0, _, _, _, _, _, _ => none
  | k + 1, x5, x6, x7, x36, x37, x38 => if x38 < x37 then (if 0 ≤ x38 then (if x38 < (x36.length : Int) then ((image_turned.f ((rd_T30 x36 x38).f2)).bind fun t215 => ((image_put.f k x5 4 (([1, (wrap64 (x6 + (x7.length : Int))) % 4294967296, (rd_T30 x36 x38).f0, (rd_T30 x36 x38).f0, ((((rd_T30 x36 x38).f3).length : Int)) % 4294967296, (rd_T30 x36 x38).f1, (t215) % 4294967296, 256] : List Int))).bind fun t219 => (if x7.length + ((rd_T30 x36 x38).f3).length < 140737488355328 then (image_Put.l0 k t219 x6 (x7 ++ ((rd_T30 x36 x38).f3)) x36 x37 (wrap64 (x38 + 1))) else (none)))) else (none)) else (none)) else (if (wrap64 (x6 + (x7.length : Int))) > 65536 then (some (([] : List Int), 2)) else (if x5.length + x7.length < 140737488355328 then (some ((x5 ++ x7), 0)) else (none)))
def image_Put.f (k : Nat) (a0_0 : Int) (l0_1 : List (S30)) : Option (List Int × Int) := (image_Good.f k a0_0 l0_1).bind fun t191 => (if t191 = 0 then ((image_ident.f).bind fun t192 => ((image_put.f k t192 2 (([2, 243] : List Int))).bind fun t198 => ((image_put.f k t198 4 (([1, a0_0, 52, 0, 0] : List Int))).bind fun t204 => ((image_put.f k t204 2 (([52, 32, ((l0_1.length : Int)) % 4294967296, 0, 0, 0] : List Int))).bind fun t210 => (image_Put.l0 k t210 (wrap64 (52 + (wrap64 (32 * (l0_1.length : Int))))) ([] : List Int) l0_1 (l0_1.length : Int) 0))))) else (some (([] : List Int), t191)))
theorem image_Put.mono_l : ∀ k, (∀ y0 y1 y2 y3 y4 y5, LeO (image_Put.l0 k y0 y1 y2 y3 y4 y5) (image_Put.l0 (k + 1) y0 y1 y2 y3 y4 y5))
  | 0 => fun _ _ _ _ _ _ r h => by simp [image_Put.l0] at h
  | k + 1 => by
    have ih0 := image_Put.mono_l k
    · intro y0 y1 y2 y3 y4 y5
      unfold image_Put.l0
      repeat' first
      | (with_reducible exact ih0 _ _ _ _ _ _)
      | (with_reducible exact image_Good.mono _ _ _)
      | (with_reducible exact image_put.mono _ _ _ _)
      | (with_reducible exact LeO.refl _)
      | (with_reducible exact LeO.none _)
      | (with_reducible refine LeO.ite ?_ ?_)
      | (with_reducible refine LeO.bind ?_ (fun _ => ?_))
      | exact ih0 _ _ _ _ _ _
      | exact image_Good.mono _ _ _
      | exact image_put.mono _ _ _ _
      | exact LeO.none _
      | refine LeO.ite ?_ ?_
      | refine LeO.bind ?_ (fun _ => ?_)
theorem image_Put.mono : ∀ a0 a1 k, LeO (image_Put.f k a0 a1) (image_Put.f (k + 1) a0 a1) := by
  intro a0 a1 k
  have ih0 := image_Put.mono_l k
  unfold image_Put.f
  repeat' first
      | (with_reducible exact ih0 _ _ _ _ _ _)
      | (with_reducible exact image_Good.mono _ _ _)
      | (with_reducible exact image_put.mono _ _ _ _)
      | (with_reducible exact LeO.refl _)
      | (with_reducible exact LeO.none _)
      | (with_reducible refine LeO.ite ?_ ?_)
      | (with_reducible refine LeO.bind ?_ (fun _ => ?_))
      | exact ih0 _ _ _ _ _ _
      | exact image_Good.mono _ _ _
      | exact image_put.mono _ _ _ _
      | exact LeO.none _
      | refine LeO.ite ?_ ?_
      | refine LeO.bind ?_ (fun _ => ?_)
def image_Put.T12 : Bool × List (List Nat × List Nat) := (true, [([], []), ([], []), ([], []), ([2], [2]), ([1, 3], [1, 3]), ([4], [4]), ([], []), ([6], [6]), ([], []), ([8], [8]), ([], []), ([10], [10]), ([11], [11]), ([12], [12]), ([], []), ([14], [14]), ([], []), ([16], [16]), ([17], [17]), ([18], [18]), ([5, 7, 9, 13, 15, 19], [5, 7, 9, 13, 15, 19]), ([0, 20, 18], [0, 20]), ([21, 21, 0, 1, 2, 3, 4, 5, 6, 7, 8, 9, 10, 11, 12, 13, 14, 15, 16, 17, 18, 19, 20, 21], [0, 21])])
def image_Put.B12 : List Nat := [0, 0, 0, 4, 14, 30, 0, 64, 0, 256, 0, 1024, 3072, 7168, 0, 16384, 0, 65536, 196608, 458752, 1048574, 2097151, 4194303]
theorem image_Put.tab12 : rtab .any (opsOf Try.f11 12) = image_Put.T12 := by kernel_rfl
theorem image_Put.bits12 : waitsOk image_Put.T12.2 image_Put.B12 = true := by kernel_rfl
set_option maxHeartbeats 8000000 in
set_option maxRecDepth 100000 in
theorem image_Put.calls (k : Nat) (a0_0 : Int) (A0_1 : Option Addr) (c0_1 : Nat) (l0_1 : List (S30)) (r1 : List Int) (r2 : Int) (w : World) (hr0_1 : Kd.C k30 w A0_1 l0_1.length l0_1) (hc0_1 : l0_1.length ≤ c0_1) (h : image_Put.f k a0_0 l0_1 = some (r1, r2)) :
    Calls Try.prog 11 #[.agg #[.int .u32 a0_0, .slice A0_1 l0_1.length c0_1]] w fun e w' => ∃ v0_ : Value, e = .returned (.tuple #[v0_, .int .i64 r2]) ∧ Kd.R (Kd.int .u8) 5 w' w.heap.size (fun _ => True) v0_ r1 ∧ Below w.heap.size w w' := by
  have hu26 := Try.underlying26
  have hu30 := Try.underlying30
  have HR0_1 := Aside0.mk hr0_1
  have HC0_1 := Aside0.mk hc0_1
  clear hr0_1 hc0_1
  have HB := Aside0.mk (Below.refl w.heap.size w)
  have H : ((image_Good.f k a0_0 l0_1).bind fun t191 => (if t191 = 0 then ((image_ident.f).bind fun t192 => ((image_put.f k t192 2 (([2, 243] : List Int))).bind fun t198 => ((image_put.f k t198 4 (([1, a0_0, 52, 0, 0] : List Int))).bind fun t204 => ((image_put.f k t204 2 (([52, 32, ((l0_1.length : Int)) % 4294967296, 0, 0, 0] : List Int))).bind fun t210 => (image_Put.l0 k t210 (wrap64 (52 + (wrap64 (32 * (l0_1.length : Int))))) ([] : List Int) l0_1 (l0_1.length : Int) 0))))) else (some (([] : List Int), t191)))) = some (r1, r2) := h
  clear h
  replace H := Option.bind_eq_some_iff.mp H
  obtain ⟨t191, A20, H⟩ := H
  replace H : (if t191 = 0 then ((image_ident.f).bind fun t192 => ((image_put.f k t192 2 (([2, 243] : List Int))).bind fun t198 => ((image_put.f k t198 4 (([1, a0_0, 52, 0, 0] : List Int))).bind fun t204 => ((image_put.f k t204 2 (([52, 32, ((l0_1.length : Int)) % 4294967296, 0, 0, 0] : List Int))).bind fun t210 => (image_Put.l0 k t210 (wrap64 (52 + (wrap64 (32 * (l0_1.length : Int))))) ([] : List Int) l0_1 (l0_1.length : Int) 0))))) else (some (([] : List Int), t191))) = some (r1, r2) := H
  have A2 := Aside0.mk A20
  clear A20
  by_cases c3 : t191 = 0
  · rw [if_pos c3] at H
    have c3b0 : (t191 == 0) = true := beq_iff_eq.mpr c3
    have c3b1 : (t191 != 0) = false := bne_eq_false_iff_eq.mpr c3
    clear c3
    replace H := Option.bind_eq_some_iff.mp H
    obtain ⟨t192, A40, H⟩ := H
    replace H : ((image_put.f k t192 2 (([2, 243] : List Int))).bind fun t198 => ((image_put.f k t198 4 (([1, a0_0, 52, 0, 0] : List Int))).bind fun t204 => ((image_put.f k t204 2 (([52, 32, ((l0_1.length : Int)) % 4294967296, 0, 0, 0] : List Int))).bind fun t210 => (image_Put.l0 k t210 (wrap64 (52 + (wrap64 (32 * (l0_1.length : Int))))) ([] : List Int) l0_1 (l0_1.length : Int) 0)))) = some (r1, r2) := H
    have A4 := Aside0.mk A40
    clear A40
    obtain ⟨y195, hy195⟩ : ∃ y_ : List Int, y_ = (([2, 243] : List Int)) := ⟨_, rfl⟩
    replace H : ((image_put.f k t192 2 y195).bind fun t198 => ((image_put.f k t198 4 (([1, a0_0, 52, 0, 0] : List Int))).bind fun t204 => ((image_put.f k t204 2 (([52, 32, ((l0_1.length : Int)) % 4294967296, 0, 0, 0] : List Int))).bind fun t210 => (image_Put.l0 k t210 (wrap64 (52 + (wrap64 (32 * (l0_1.length : Int))))) ([] : List Int) l0_1 (l0_1.length : Int) 0)))) = some (r1, r2) := by first | (rw [hy195]; with_reducible exact H) | (have H2_ := (Option.bind_some _ _).symm.trans H; rw [hy195]; with_reducible exact H2_) | (have H2_ := (Option.bind_some _ _).symm.trans H; with_reducible exact H2_) | with_reducible exact H | (rw [hy195]; exact H) | exact H
    have Ny195 := Aside0.mk hy195
    clear hy195
    replace H := Option.bind_eq_some_iff.mp H
    obtain ⟨t198, A50, H⟩ := H
    replace H : ((image_put.f k t198 4 (([1, a0_0, 52, 0, 0] : List Int))).bind fun t204 => ((image_put.f k t204 2 (([52, 32, ((l0_1.length : Int)) % 4294967296, 0, 0, 0] : List Int))).bind fun t210 => (image_Put.l0 k t210 (wrap64 (52 + (wrap64 (32 * (l0_1.length : Int))))) ([] : List Int) l0_1 (l0_1.length : Int) 0))) = some (r1, r2) := H
    have A5 := Aside0.mk A50
    clear A50
    obtain ⟨y201, hy201⟩ : ∃ y_ : List Int, y_ = (([1, a0_0, 52, 0, 0] : List Int)) := ⟨_, rfl⟩
    replace H : ((image_put.f k t198 4 y201).bind fun t204 => ((image_put.f k t204 2 (([52, 32, ((l0_1.length : Int)) % 4294967296, 0, 0, 0] : List Int))).bind fun t210 => (image_Put.l0 k t210 (wrap64 (52 + (wrap64 (32 * (l0_1.length : Int))))) ([] : List Int) l0_1 (l0_1.length : Int) 0))) = some (r1, r2) := by first | (rw [hy201]; with_reducible exact H) | (have H2_ := (Option.bind_some _ _).symm.trans H; rw [hy201]; with_reducible exact H2_) | (have H2_ := (Option.bind_some _ _).symm.trans H; with_reducible exact H2_) | with_reducible exact H | (rw [hy201]; exact H) | exact H
    have Ny201 := Aside0.mk hy201
    clear hy201
    replace H := Option.bind_eq_some_iff.mp H
    obtain ⟨t204, A60, H⟩ := H
    replace H : ((image_put.f k t204 2 (([52, 32, ((l0_1.length : Int)) % 4294967296, 0, 0, 0] : List Int))).bind fun t210 => (image_Put.l0 k t210 (wrap64 (52 + (wrap64 (32 * (l0_1.length : Int))))) ([] : List Int) l0_1 (l0_1.length : Int) 0)) = some (r1, r2) := H
    have A6 := Aside0.mk A60
    clear A60
    obtain ⟨y207, hy207⟩ : ∃ y_ : List Int, y_ = (([52, 32, ((l0_1.length : Int)) % 4294967296, 0, 0, 0] : List Int)) := ⟨_, rfl⟩
    replace H : ((image_put.f k t204 2 y207).bind fun t210 => (image_Put.l0 k t210 (wrap64 (52 + (wrap64 (32 * (l0_1.length : Int))))) ([] : List Int) l0_1 (l0_1.length : Int) 0)) = some (r1, r2) := by first | (rw [hy207]; with_reducible exact H) | (have H2_ := (Option.bind_some _ _).symm.trans H; rw [hy207]; with_reducible exact H2_) | (have H2_ := (Option.bind_some _ _).symm.trans H; with_reducible exact H2_) | with_reducible exact H | (rw [hy207]; exact H) | exact H
    have Ny207 := Aside0.mk hy207
    clear hy207
    replace H := Option.bind_eq_some_iff.mp H
    obtain ⟨t210, A70, H⟩ := H
    replace H : (image_Put.l0 k t210 (wrap64 (52 + (wrap64 (32 * (l0_1.length : Int))))) ([] : List Int) l0_1 (l0_1.length : Int) 0) = some (r1, r2) := H
    have A7 := Aside0.mk A70
    clear A70
    have H' := Aside0.mk H
    clear H
    go_enter Try.func11, Try.ntmps11
    go_wp2_with (first | ((with_reducible refine gate_dst (N := 1) rfl ?_); refine box_event ?hg (N := 1) ?hd (cs := #[.int .u32 a0_0, .slice A0_1 l0_1.length c0_1]) (t := 26) ?hr ?_; (case hd => rfl); (case hg => rfl); (case hr => first | (go_simp; done) | (go_simp; simp only [IntKind.wrap_u32]; done) | (go_simp; rfl)); intro gb190 hg w8 hbox hb; have n0_ := Aside0.mk (below_step (by with_reducible repeat (first | exact HB.out | apply below_alloc | apply pw_below_drewN | apply below_drew1)) hb); have n1_ := Aside0.mk (hbox); have n2_ := Aside0.mk ((by rw [hg]; exact (below_size (by with_reducible repeat (first | exact HB.out | apply below_alloc | apply pw_below_drewN | apply below_drew1))) : w.heap.size ≤ gb190)); have n3_ := Aside0.mk ((by rw [hg]; exact (below_size (by with_reducible repeat (first | exact HB.out | apply below_alloc | apply pw_below_drewN | apply below_drew1))) : w.heap.size ≤ gb190)); clear HB; have HB := n0_; have BK190 := n1_; have GW190 := n2_; have GE190 := n3_; clear n0_ n1_ n2_ n3_; clear hb hbox hg; have hcz9_0 : w8.cell? ⟨gb190, 0, none⟩ = some (.int .u32 a0_0) := (blk_cell BK190.out 0).trans rfl; have hcz9_1 : w8.cell? ⟨gb190, 1, none⟩ = some (.slice A0_1 l0_1.length c0_1) := (blk_cell BK190.out 1).trans rfl; have hfz9_0 := blk_frozen BK190.out 0; have hfz9_1 := blk_frozen BK190.out 1) | ((with_reducible refine gate_callee (f := 12) rfl ?_); refine goesL_ (some 11) rfl rfl Try.func12 (by kernel_rfl) rfl #[.agg #[.int .u32 a0_0, .slice A0_1 l0_1.length c0_1]] rfl (by (try simp only [List.map_toArray, List.map_cons, List.map_nil]); first | done | rfl | (simp only [List.length_drop, List.length_take]; rfl)) ?_; (with_reducible refine (image_Good.calls k a0_0 _ _ l0_1 t191 _ ?side1 ?side2 A2.out).mono ?_); (case side1 => repeat (first | exact (Kd.C_below HR0_1.out HB.out) | (with_reducible refine Kd.C_alloc ?_ _) | (with_reducible refine Kd.C_drewN ?_ _) | (with_reducible refine Kd.C_drew ?_))); (case side2 => exact HC0_1.out); rintro e w10 ⟨rfl, hb⟩; refine ⟨_, rfl, ?_⟩; have n0_ := Aside0.mk (blk_below (g := gb190) (o := .cells #[.int .u32 a0_0, .slice A0_1 l0_1.length c0_1] 26 (0, 0)) (by (with_reducible repeat (first | refine blk_drewN ?_ _ | refine blk_drew ?_ | refine blk_alloc ?_ _)); exact BK190.out) hb); have n1_ := Aside0.mk (below_step (by with_reducible repeat (first | exact HB.out | apply below_alloc | apply pw_below_drewN | apply below_drew1 | refine below_set ?_ GE190.out)) hb); clear BK190; clear HB; have BK190 := n0_; have HB := n1_; clear n0_ n1_; (try clear hb); (try clear hb2); (try clear hk); (try clear hi)) | ((with_reducible refine gate_callee (f := 23) rfl ?_); refine goesL_ (some 15) rfl rfl Try.func23 (by kernel_rfl) rfl #[] rfl (by (try simp only [List.map_toArray, List.map_cons, List.map_nil]); first | done | rfl | (simp only [List.length_drop, List.length_take]; rfl)) ?_; (with_reducible refine (image_ident.calls  t192 _ A4.out).mono ?_); rintro e w11 ⟨v193, rfl, ho0, hb⟩; refine ⟨_, rfl, ?_⟩; have n0_ := Aside0.mk (Kd.R_lower ho0 (below_size (by with_reducible repeat (first | exact HB.out | apply below_alloc | apply pw_below_drewN | apply below_drew1 | refine below_set ?_ GE190.out)))); have n1_ := Aside0.mk (blk_below (g := gb190) (o := .cells #[.int .u32 a0_0, .slice A0_1 l0_1.length c0_1] 26 (0, 0)) (by (with_reducible repeat (first | refine blk_drewN ?_ _ | refine blk_drew ?_ | refine blk_alloc ?_ _)); exact BK190.out) hb); have n2_ := Aside0.mk (below_step (by with_reducible repeat (first | exact HB.out | apply below_alloc | apply pw_below_drewN | apply below_drew1 | refine below_set ?_ GE190.out)) hb); clear BK190; clear HB; have HO194 := n0_; have BK190 := n1_; have HB := n2_; clear n0_ n1_ n2_; (try clear hb); (try clear hb2); (try clear hk); (try clear hi); (try clear ho0)) | ((with_reducible refine gate_dst (N := 16) rfl ?_); refine Kd.R_lit (Kd.int .u32) _ 23 ?hg (N := 16) ?hd (xs := ([2, 243] : List Int)) (inner := [.int .u32 2, .int .u32 243]) (ok := fun _ => True) (okp := fun _ => True) ?hr ?hp (fun _ hk => hk) trivial (Below.refl _ _) (Nat.le_refl _) (by simp) ?_; (case hd => rfl); (case hg => rfl); (case hr => first | (go_simp; done) | (go_simp; simp only [IntKind.wrap_u32]; done) | (go_simp; rfl)); (case hp => exact (Reps.one (show Kd.M (Kd.int .u32) _ _ _ 2 [.int .u32 2] from rfl) (Reps.one (show Kd.M (Kd.int .u32) _ _ _ 243 [.int .u32 243] from rfl) (Reps.none _ _)))); intro v196 w12 ho13 hb hg_ hnew_; clear hg_ hnew_; (first | rw [← Ny195.out] at ho13 | (simp only [Int.reduceToNat] at ho13; rw [← Ny195.out] at ho13)); have n0_ := Aside0.mk (Kd.R_below (by (with_reducible repeat (first | apply Kd.R_alloc | apply Kd.R_drewN | apply Kd.R_drew)); exact HO194.out) hb); have n1_ := Aside0.mk (Kd.R_lower ho13 (below_size (by with_reducible repeat (first | exact HB.out | apply below_alloc | apply pw_below_drewN | apply below_drew1 | refine below_set ?_ GE190.out)))); have n2_ := Aside0.mk (blk_below (g := gb190) (o := .cells #[.int .u32 a0_0, .slice A0_1 l0_1.length c0_1] 26 (0, 0)) (by (with_reducible repeat (first | refine blk_drewN ?_ _ | refine blk_drew ?_ | refine blk_alloc ?_ _)); exact BK190.out) hb); have n3_ := Aside0.mk (below_step (by with_reducible repeat (first | exact HB.out | apply below_alloc | apply pw_below_drewN | apply below_drew1 | refine below_set ?_ GE190.out)) hb); clear HO194; clear BK190; clear HB; have HO194 := n0_; have HO197 := n1_; have BK190 := n2_; have HB := n3_; clear n0_ n1_ n2_ n3_; clear hb ho13; obtain ⟨Ao14, co14, eo14⟩ := Kd.R_slice HO194.out; subst eo14; obtain ⟨Ao15, co15, eo15⟩ := Kd.R_slice HO197.out; subst eo15) | ((with_reducible refine gate_callee (f := 22) rfl ?_); refine goesL_ (some 17) rfl rfl Try.func22 (by kernel_rfl) rfl #[.slice Ao14 t192.length co14, .int .i64 2, .slice Ao15 y195.length co15] rfl (by (try simp only [List.map_toArray, List.map_cons, List.map_nil]); first | done | rfl | (simp only [List.length_drop, List.length_take]; rfl)) ?_; (with_reducible refine (image_put.calls k (fun k_ => some k_ = (.slice Ao14 t192.length co14 : Value).ownBlock) (.slice Ao14 t192.length co14) t192 2 _ _ y195 t198 w _ ?side1 ?side2 ?side3 ?side4 A5.out).mono ?_); (case side1 => repeat (first | (with_reducible first | exact HB.out | apply below_alloc | apply pw_below_drewN | apply below_drew1 | refine below_set ?_ GE190.out) | exact HB.out)); (case side2 => exact Kd.R_tight rfl HO194.out); (case side3 => exact Kd.C_kept_own ((Kd.R_apart' HO197.out (Kd.R_typed HO194.out) (by decide))) (fun k_ hk_ hs_ => (hk_.2) hs_)); (case side4 => exact (Kd.R_reads' HO197.out).2.1); rintro e w16 ⟨v199, rfl, ho0, hb, hkp⟩; refine ⟨_, rfl, ?_⟩; have n0_ := Aside0.mk (blk_kept (by (with_reducible repeat (first | refine blk_drewN ?_ _ | refine blk_drew ?_ | refine blk_alloc ?_ _)); exact BK190.out) hkp (fun hs_ => (fun e_ => (Kd.R_ne HO194.out BK190.out (by decide)) e_) hs_)); have n1_ := Aside0.mk (Kd.R_mono (ok' := fun k_ => True) (Kd.R_keptB ((Kd.R_apart' HO197.out (Kd.R_typed HO194.out) (by decide))) hkp (fun k_ hk_ hs_ => (hk_.2) hs_)) (fun k_ hk_ => trivial)); have n2_ := Aside0.mk (Kd.R_mono (ok' := fun k_ => True) ho0 (fun k_ hk_ => trivial)); have n3_ := Aside0.mk (hb); clear BK190; clear HO197; clear HB; clear HO194; have BK190 := n0_; have HO197 := n1_; have HO200 := n2_; have HB := n3_; clear n0_ n1_ n2_ n3_; (try clear hb); (try clear hkp); (try clear ho0); have hcz17_0 : w16.cell? ⟨gb190, 0, none⟩ = some (.int .u32 a0_0) := (blk_cell BK190.out 0).trans rfl; have hcz17_1 : w16.cell? ⟨gb190, 1, none⟩ = some (.slice A0_1 l0_1.length c0_1) := (blk_cell BK190.out 1).trans rfl; have hfz17_0 := blk_frozen BK190.out 0; have hfz17_1 := blk_frozen BK190.out 1) | ((with_reducible refine gate_dst (N := 21) rfl ?_); refine Kd.R_lit (Kd.int .u32) _ 23 ?hg (N := 21) ?hd (xs := ([1, a0_0, 52, 0, 0] : List Int)) (inner := [.int .u32 1, .int .u32 a0_0, .int .u32 52, .int .u32 0, .int .u32 0]) (ok := fun _ => True) (okp := fun _ => True) ?hr ?hp (fun _ hk => hk) trivial (Below.refl _ _) (Nat.le_refl _) (by simp) ?_; (case hd => rfl); (case hg => rfl); (case hr => first | (go_simp; done) | (go_simp; simp only [IntKind.wrap_u32]; done) | (go_simp; rfl)); (case hp => exact (Reps.one (show Kd.M (Kd.int .u32) _ _ _ 1 [.int .u32 1] from rfl) (Reps.one (show Kd.M (Kd.int .u32) _ _ _ a0_0 [.int .u32 a0_0] from rfl) (Reps.one (show Kd.M (Kd.int .u32) _ _ _ 52 [.int .u32 52] from rfl) (Reps.one (show Kd.M (Kd.int .u32) _ _ _ 0 [.int .u32 0] from rfl) (Reps.one (show Kd.M (Kd.int .u32) _ _ _ 0 [.int .u32 0] from rfl) (Reps.none _ _))))))); intro v202 w18 ho19 hb hg_ hnew_; clear hg_ hnew_; (first | rw [← Ny201.out] at ho19 | (simp only [Int.reduceToNat] at ho19; rw [← Ny201.out] at ho19)); have n0_ := Aside0.mk (Kd.R_elder' (by (with_reducible repeat (first | apply Kd.R_alloc | apply Kd.R_drewN | apply Kd.R_drew)); exact HO197.out) (Kd.R_base ho19) hb); have n1_ := Aside0.mk (Kd.R_below (by (with_reducible repeat (first | apply Kd.R_alloc | apply Kd.R_drewN | apply Kd.R_drew)); exact HO200.out) hb); have n2_ := Aside0.mk (Kd.R_lower (Kd.R_new' ho19 (Kd.R_lt (by (with_reducible repeat (first | apply Kd.R_alloc | apply Kd.R_drewN | apply Kd.R_drew)); exact HO197.out))) (below_size (by with_reducible repeat (first | exact HB.out | apply below_alloc | apply pw_below_drewN | apply below_drew1 | refine below_set ?_ GE190.out)))); have n3_ := Aside0.mk (blk_below (g := gb190) (o := .cells #[.int .u32 a0_0, .slice A0_1 l0_1.length c0_1] 26 (0, 0)) (by (with_reducible repeat (first | refine blk_drewN ?_ _ | refine blk_drew ?_ | refine blk_alloc ?_ _)); exact BK190.out) hb); have n4_ := Aside0.mk (below_step (by with_reducible repeat (first | exact HB.out | apply below_alloc | apply pw_below_drewN | apply below_drew1 | refine below_set ?_ GE190.out)) hb); clear HO197; clear HO200; clear BK190; clear HB; have HO197 := n0_; have HO200 := n1_; have HO203 := n2_; have BK190 := n3_; have HB := n4_; clear n0_ n1_ n2_ n3_ n4_; clear hb ho19; obtain ⟨Ao20, co20, eo20⟩ := Kd.R_slice HO200.out; subst eo20; obtain ⟨Ao21, co21, eo21⟩ := Kd.R_slice HO203.out; subst eo21) | ((with_reducible refine gate_callee (f := 22) rfl ?_); refine goesL_ (some 22) rfl rfl Try.func22 (by kernel_rfl) rfl #[.slice Ao20 t198.length co20, .int .i64 4, .slice Ao21 y201.length co21] rfl (by (try simp only [List.map_toArray, List.map_cons, List.map_nil]); first | done | rfl | (simp only [List.length_drop, List.length_take]; rfl)) ?_; (with_reducible refine (image_put.calls k (fun k_ => some k_ = (.slice Ao20 t198.length co20 : Value).ownBlock) (.slice Ao20 t198.length co20) t198 4 _ _ y201 t204 w _ ?side1 ?side2 ?side3 ?side4 A6.out).mono ?_); (case side1 => repeat (first | (with_reducible first | exact HB.out | apply below_alloc | apply pw_below_drewN | apply below_drew1 | refine below_set ?_ GE190.out) | exact HB.out)); (case side2 => exact Kd.R_tight rfl HO200.out); (case side3 => exact Kd.C_kept_own ((Kd.R_apart' HO203.out (Kd.R_typed HO200.out) (by decide))) (fun k_ hk_ hs_ => (hk_.2) hs_)); (case side4 => exact (Kd.R_reads' HO203.out).2.1); rintro e w22 ⟨v205, rfl, ho0, hb, hkp⟩; refine ⟨_, rfl, ?_⟩; have n0_ := Aside0.mk (blk_kept (by (with_reducible repeat (first | refine blk_drewN ?_ _ | refine blk_drew ?_ | refine blk_alloc ?_ _)); exact BK190.out) hkp (fun hs_ => (fun e_ => (Kd.R_ne HO200.out BK190.out (by decide)) e_) hs_)); have n1_ := Aside0.mk (Kd.R_mono (ok' := fun k_ => some k_ ≠ (.slice Ao21 y201.length co21 : Value).ownBlock) (Kd.R_keptB ((Kd.R_apart' HO197.out (Kd.R_typed HO200.out) (by decide))) hkp (fun k_ hk_ hs_ => (hk_.2) hs_)) (fun k_ hk_ => hk_.1.1.2)); have n2_ := Aside0.mk (Kd.R_mono (ok' := fun k_ => some k_ ≠ (.slice Ao15 y195.length co15 : Value).ownBlock) (Kd.R_keptB ((Kd.R_apart' HO203.out (Kd.R_typed HO200.out) (by decide))) hkp (fun k_ hk_ hs_ => (hk_.2) hs_)) (fun k_ hk_ => hk_.1.1.2)); have n3_ := Aside0.mk (Kd.R_mono (ok' := fun k_ => True) ho0 (fun k_ hk_ => trivial)); have n4_ := Aside0.mk (hb); clear BK190; clear HO197; clear HO203; clear HB; clear HO200; have BK190 := n0_; have HO197 := n1_; have HO203 := n2_; have HO206 := n3_; have HB := n4_; clear n0_ n1_ n2_ n3_ n4_; (try clear hb); (try clear hkp); (try clear ho0); have hcz23_0 : w22.cell? ⟨gb190, 0, none⟩ = some (.int .u32 a0_0) := (blk_cell BK190.out 0).trans rfl; have hcz23_1 : w22.cell? ⟨gb190, 1, none⟩ = some (.slice A0_1 l0_1.length c0_1) := (blk_cell BK190.out 1).trans rfl; have hfz23_0 := blk_frozen BK190.out 0; have hfz23_1 := blk_frozen BK190.out 1) | ((with_reducible refine gate_dst (N := 28) rfl ?_); refine Kd.R_lit (Kd.int .u32) _ 23 ?hg (N := 28) ?hd (xs := ([52, 32, ((l0_1.length : Int)) % 4294967296, 0, 0, 0] : List Int)) (inner := [.int .u32 52, .int .u32 32, .int .u32 (((l0_1.length : Int)) % 4294967296), .int .u32 0, .int .u32 0, .int .u32 0]) (ok := fun _ => True) (okp := fun _ => True) ?hr ?hp (fun _ hk => hk) trivial (Below.refl _ _) (Nat.le_refl _) (by simp) ?_; (case hd => rfl); (case hg => rfl); (case hr => first | (go_simp; done) | (go_simp; simp only [IntKind.wrap_u32]; done) | (go_simp; rfl)); (case hp => exact (Reps.one (show Kd.M (Kd.int .u32) _ _ _ 52 [.int .u32 52] from rfl) (Reps.one (show Kd.M (Kd.int .u32) _ _ _ 32 [.int .u32 32] from rfl) (Reps.one (show Kd.M (Kd.int .u32) _ _ _ (((l0_1.length : Int)) % 4294967296) [.int .u32 (((l0_1.length : Int)) % 4294967296)] from rfl) (Reps.one (show Kd.M (Kd.int .u32) _ _ _ 0 [.int .u32 0] from rfl) (Reps.one (show Kd.M (Kd.int .u32) _ _ _ 0 [.int .u32 0] from rfl) (Reps.one (show Kd.M (Kd.int .u32) _ _ _ 0 [.int .u32 0] from rfl) (Reps.none _ _)))))))); intro v208 w24 ho25 hb hg_ hnew_; clear hg_ hnew_; (first | rw [← Ny207.out] at ho25 | (simp only [Int.reduceToNat] at ho25; rw [← Ny207.out] at ho25)); have n0_ := Aside0.mk (Kd.R_elder' (by (with_reducible repeat (first | apply Kd.R_alloc | apply Kd.R_drewN | apply Kd.R_drew)); exact HO197.out) (Kd.R_base ho25) hb); have n1_ := Aside0.mk (Kd.R_elder' (by (with_reducible repeat (first | apply Kd.R_alloc | apply Kd.R_drewN | apply Kd.R_drew)); exact HO203.out) (Kd.R_base ho25) hb); have n2_ := Aside0.mk (Kd.R_below (by (with_reducible repeat (first | apply Kd.R_alloc | apply Kd.R_drewN | apply Kd.R_drew)); exact HO206.out) hb); have n3_ := Aside0.mk (Kd.R_lower (Kd.R_new' (Kd.R_new' ho25 (Kd.R_lt (by (with_reducible repeat (first | apply Kd.R_alloc | apply Kd.R_drewN | apply Kd.R_drew)); exact HO197.out))) (Kd.R_lt (by (with_reducible repeat (first | apply Kd.R_alloc | apply Kd.R_drewN | apply Kd.R_drew)); exact HO203.out))) (below_size (by with_reducible repeat (first | exact HB.out | apply below_alloc | apply pw_below_drewN | apply below_drew1 | refine below_set ?_ GE190.out)))); have n4_ := Aside0.mk (blk_below (g := gb190) (o := .cells #[.int .u32 a0_0, .slice A0_1 l0_1.length c0_1] 26 (0, 0)) (by (with_reducible repeat (first | refine blk_drewN ?_ _ | refine blk_drew ?_ | refine blk_alloc ?_ _)); exact BK190.out) hb); have n5_ := Aside0.mk (below_step (by with_reducible repeat (first | exact HB.out | apply below_alloc | apply pw_below_drewN | apply below_drew1 | refine below_set ?_ GE190.out)) hb); clear HO197; clear HO203; clear HO206; clear BK190; clear HB; have HO197 := n0_; have HO203 := n1_; have HO206 := n2_; have HO209 := n3_; have BK190 := n4_; have HB := n5_; clear n0_ n1_ n2_ n3_ n4_ n5_; clear hb ho25; obtain ⟨Ao26, co26, eo26⟩ := Kd.R_slice HO206.out; subst eo26; obtain ⟨Ao27, co27, eo27⟩ := Kd.R_slice HO209.out; subst eo27) | ((with_reducible refine gate_callee (f := 22) rfl ?_); refine goesL_ (some 29) rfl rfl Try.func22 (by kernel_rfl) rfl #[.slice Ao26 t204.length co26, .int .i64 2, .slice Ao27 y207.length co27] rfl (by (try simp only [List.map_toArray, List.map_cons, List.map_nil]); first | done | rfl | (simp only [List.length_drop, List.length_take]; rfl)) ?_; (with_reducible refine (image_put.calls k (fun k_ => some k_ = (.slice Ao26 t204.length co26 : Value).ownBlock) (.slice Ao26 t204.length co26) t204 2 _ _ y207 t210 w _ ?side1 ?side2 ?side3 ?side4 A7.out).mono ?_); (case side1 => repeat (first | (with_reducible first | exact HB.out | apply below_alloc | apply pw_below_drewN | apply below_drew1 | refine below_set ?_ GE190.out) | exact HB.out)); (case side2 => exact Kd.R_tight rfl HO206.out); (case side3 => exact Kd.C_kept_own ((Kd.R_apart' HO209.out (Kd.R_typed HO206.out) (by decide))) (fun k_ hk_ hs_ => (hk_.2) hs_)); (case side4 => exact (Kd.R_reads' HO209.out).2.1); rintro e w28 ⟨v211, rfl, ho0, hb, hkp⟩; refine ⟨_, rfl, ?_⟩; have n0_ := Aside0.mk (blk_kept (by (with_reducible repeat (first | refine blk_drewN ?_ _ | refine blk_drew ?_ | refine blk_alloc ?_ _)); exact BK190.out) hkp (fun hs_ => (fun e_ => (Kd.R_ne HO206.out BK190.out (by decide)) e_) hs_)); have n1_ := Aside0.mk (Kd.R_mono (ok' := fun k_ => some k_ ≠ (.slice Ao21 y201.length co21 : Value).ownBlock ∧ some k_ ≠ (.slice Ao27 y207.length co27 : Value).ownBlock) (Kd.R_keptB ((Kd.R_apart' HO197.out (Kd.R_typed HO206.out) (by decide))) hkp (fun k_ hk_ hs_ => (hk_.2) hs_)) (fun k_ hk_ => ⟨hk_.1.1.1, hk_.1.1.2⟩)); have n2_ := Aside0.mk (Kd.R_mono (ok' := fun k_ => some k_ ≠ (.slice Ao15 y195.length co15 : Value).ownBlock ∧ some k_ ≠ (.slice Ao27 y207.length co27 : Value).ownBlock) (Kd.R_keptB ((Kd.R_apart' HO203.out (Kd.R_typed HO206.out) (by decide))) hkp (fun k_ hk_ hs_ => (hk_.2) hs_)) (fun k_ hk_ => ⟨hk_.1.1.1, hk_.1.1.2⟩)); have n3_ := Aside0.mk (Kd.R_mono (ok' := fun k_ => some k_ ≠ (.slice Ao15 y195.length co15 : Value).ownBlock ∧ some k_ ≠ (.slice Ao21 y201.length co21 : Value).ownBlock) (Kd.R_keptB ((Kd.R_apart' HO209.out (Kd.R_typed HO206.out) (by decide))) hkp (fun k_ hk_ hs_ => (hk_.2) hs_)) (fun k_ hk_ => ⟨hk_.1.1.1.2, hk_.1.1.2⟩)); have n4_ := Aside0.mk (Kd.R_mono (ok' := fun k_ => True) ho0 (fun k_ hk_ => trivial)); have n5_ := Aside0.mk (hb); clear BK190; clear HO197; clear HO203; clear HO209; clear HB; clear HO206; have BK190 := n0_; have HO197 := n1_; have HO203 := n2_; have HO209 := n3_; have HO212 := n4_; have HB := n5_; clear n0_ n1_ n2_ n3_ n4_ n5_; (try clear hb); (try clear hkp); (try clear ho0); have hcz29_0 : w28.cell? ⟨gb190, 0, none⟩ = some (.int .u32 a0_0) := (blk_cell BK190.out 0).trans rfl; have hcz29_1 : w28.cell? ⟨gb190, 1, none⟩ = some (.slice A0_1 l0_1.length c0_1) := (blk_cell BK190.out 1).trans rfl; have hfz29_0 := blk_frozen BK190.out 0; have hfz29_1 := blk_frozen BK190.out 1))
    go_loopg [5, 7, 38] k (fun kq v5 v7 v38 w' => ∃ (x5_1 : List Int) (x7_1 : List Int) (x38_1 : Int), v38 = .int .i64 x38_1 ∧ Aside0 (image_Put.l0 kq x5_1 (wrap64 (52 + (wrap64 (32 * (l0_1.length : Int))))) x7_1 l0_1 (l0_1.length : Int) x38_1 = some (r1, r2)) ∧ Aside0 (kq ≤ k) ∧ Aside0 (Kd.R (Kd.int .u8) 5 w' w.heap.size (fun k_ => some k_ ≠ (v7 : Value).ownBlock) v5 x5_1) ∧ Aside0 (Kd.R (Kd.int .u8) 5 w' w.heap.size (fun k_ => some k_ ≠ (v5 : Value).ownBlock) v7 x7_1) ∧ Aside0 (w'.heap[gb190]? = some (.cells #[.int .u32 a0_0, (.slice A0_1 l0_1.length c0_1)] 26 (0, 0))) ∧ Aside0 (Below w.heap.size w w'))
    case atStart => exact ⟨(t210), (([] : List Int)), (0), (by first | rfl | (simp; done) | (simp [*]; done)), H', ⟨Nat.le_refl _⟩, ⟨by (with_reducible repeat (first | apply Kd.R_alloc | apply Kd.R_drewN | apply Kd.R_drew)); exact Kd.R_mono HO212.out (fun _ hk => (by simp [Value.ownBlock]))⟩, ⟨by first | exact Kd.R_nil _ _ _ _ _ | exact Kd.N_nil _ _ _ _ _ | exact Kd.V_nil _ _ _ _ _ | exact Kd.Q_nil _ _ _ _ _ | exact Kd.S_nil _ _ _ _ _⟩, ⟨by (with_reducible repeat (first | refine blk_drewN ?_ _ | refine blk_drew ?_ | refine blk_alloc ?_ _)); exact BK190.out⟩, ⟨by repeat (first | (with_reducible first | exact HB.out | apply below_alloc | apply pw_below_drewN | apply below_drew1 | refine below_set ?_ GE190.out) | exact HB.out)⟩⟩
    case round =>
      clear H'
      try clear c1
      try clear c2
      try clear p2
      try clear c3
      try clear c3b0
      try clear c3b1
      try clear p6
      try clear c11
      try clear c12
      try clear c22
      try clear c23
      try clear hcz17_0
      try clear hcz17_1
      try clear hcz23_0
      try clear hcz23_1
      try clear hcz29_0
      try clear hcz29_1
      try clear hcz9_0
      try clear hcz9_1
      try clear hfz17_0
      try clear hfz17_1
      try clear hfz23_0
      try clear hfz23_1
      try clear hfz29_0
      try clear hfz29_1
      try clear hfz9_0
      try clear hfz9_1
      obtain ⟨x5_1, x7_1, x38_1, rfl, HA, HK1, HO_5, HO_7, BK190, HB⟩ := hrel
      cases gk with
      | zero => exact absurd HA.out (by simp [image_Put.l0])
      | succ k1 =>
        have H := HA.out
        clear HA
        simp only [image_Put.l0] at H
        by_cases c30 : x38_1 < (l0_1.length : Int)
        · rw [if_pos c30] at H
          have c30b0 : decide (x38_1 < (l0_1.length : Int)) = true := decide_eq_true c30
          clear c30
          by_cases c31 : 0 ≤ x38_1
          · rw [if_pos c31] at H
            have c31b0 : decide (0 ≤ x38_1) = true := decide_eq_true c31
            clear c31
            by_cases c32 : x38_1 < (l0_1.length : Int)
            · rw [if_pos c32] at H
              have c32b0 : decide (x38_1 < (l0_1.length : Int)) = true := decide_eq_true c32
              clear c32
              replace H := Option.bind_eq_some_iff.mp H
              obtain ⟨t215, A330, H⟩ := H
              replace H : ((image_put.f k1 x5_1 4 (([1, (wrap64 ((wrap64 (52 + (wrap64 (32 * (l0_1.length : Int))))) + (x7_1.length : Int))) % 4294967296, (rd_T30 l0_1 x38_1).f0, (rd_T30 l0_1 x38_1).f0, ((((rd_T30 l0_1 x38_1).f3).length : Int)) % 4294967296, (rd_T30 l0_1 x38_1).f1, (t215) % 4294967296, 256] : List Int))).bind fun t219 => (if x7_1.length + ((rd_T30 l0_1 x38_1).f3).length < 140737488355328 then (image_Put.l0 k1 t219 (wrap64 (52 + (wrap64 (32 * (l0_1.length : Int))))) (x7_1 ++ ((rd_T30 l0_1 x38_1).f3)) l0_1 (l0_1.length : Int) (wrap64 (x38_1 + 1))) else (none))) = some (r1, r2) := H
              have A33 := Aside0.mk A330
              clear A330
              obtain ⟨y216, hy216⟩ : ∃ y_ : List Int, y_ = (([1, (wrap64 ((wrap64 (52 + (wrap64 (32 * (l0_1.length : Int))))) + (x7_1.length : Int))) % 4294967296, (rd_T30 l0_1 x38_1).f0, (rd_T30 l0_1 x38_1).f0, ((((rd_T30 l0_1 x38_1).f3).length : Int)) % 4294967296, (rd_T30 l0_1 x38_1).f1, (t215) % 4294967296, 256] : List Int)) := ⟨_, rfl⟩
              replace H : ((image_put.f k1 x5_1 4 y216).bind fun t219 => (if x7_1.length + ((rd_T30 l0_1 x38_1).f3).length < 140737488355328 then (image_Put.l0 k1 t219 (wrap64 (52 + (wrap64 (32 * (l0_1.length : Int))))) (x7_1 ++ ((rd_T30 l0_1 x38_1).f3)) l0_1 (l0_1.length : Int) (wrap64 (x38_1 + 1))) else (none))) = some (r1, r2) := by first | (rw [hy216]; with_reducible exact H) | (have H2_ := (Option.bind_some _ _).symm.trans H; rw [hy216]; with_reducible exact H2_) | (have H2_ := (Option.bind_some _ _).symm.trans H; with_reducible exact H2_) | with_reducible exact H | (rw [hy216]; exact H) | exact H
              have Ny216 := Aside0.mk hy216
              clear hy216
              replace H := Option.bind_eq_some_iff.mp H
              obtain ⟨t219, A340, H⟩ := H
              replace H : (if x7_1.length + ((rd_T30 l0_1 x38_1).f3).length < 140737488355328 then (image_Put.l0 k1 t219 (wrap64 (52 + (wrap64 (32 * (l0_1.length : Int))))) (x7_1 ++ ((rd_T30 l0_1 x38_1).f3)) l0_1 (l0_1.length : Int) (wrap64 (x38_1 + 1))) else (none)) = some (r1, r2) := H
              have A34 := Aside0.mk A340
              clear A340
              by_cases c35 : x7_1.length + ((rd_T30 l0_1 x38_1).f3).length < 140737488355328
              · rw [if_pos c35] at H
                have LMc35 := Aside0.mk c35
                clear c35
                obtain ⟨y222, hy222⟩ : ∃ y_ : List Int, y_ = (x7_1 ++ ((rd_T30 l0_1 x38_1).f3)) := ⟨_, rfl⟩
                replace H : (image_Put.l0 k1 t219 (wrap64 (52 + (wrap64 (32 * (l0_1.length : Int))))) y222 l0_1 (l0_1.length : Int) (wrap64 (x38_1 + 1))) = some (r1, r2) := by first | (rw [hy222]; with_reducible exact H) | (have H2_ := (Option.bind_some _ _).symm.trans H; rw [hy222]; with_reducible exact H2_) | (have H2_ := (Option.bind_some _ _).symm.trans H; with_reducible exact H2_) | with_reducible exact H | (rw [hy222]; exact H) | exact H
                have Ny222 := Aside0.mk hy222
                clear hy222
                have H' := Aside0.mk H
                clear H
                have p213 : 0 ≤ (x38_1 : Int) := of_decide_eq_true (by first | (with_reducible assumption) | assumption)
                have q213 : x38_1 < (l0_1.length : Int) := of_decide_eq_true (by first | (with_reducible assumption) | assumption)
                obtain ⟨ad213, A213_3, c213_3, e213, hx213_0, hx213_1, hx213_2, hx213_3, hl213_3, hi213_3⟩ := at_T30 HR0_1.out x38_1 p213 q213
                cases e213
                replace hx213_0 := (HB.out.cell (World.block_lt_of_cell? w _ hx213_0)).trans hx213_0
                replace hx213_1 := (HB.out.cell (World.block_lt_of_cell? w _ hx213_1)).trans hx213_1
                replace hx213_2 := (HB.out.cell (World.block_lt_of_cell? w _ hx213_2)).trans hx213_2
                replace hx213_3 := (HB.out.cell (World.block_lt_of_cell? w _ hx213_3)).trans hx213_3
                have HR213_3 := Aside0.mk hi213_3
                have HC213_3 := Aside0.mk hl213_3
                clear hi213_3 hl213_3
                replace p213 := eq_true p213
                replace q213 := eq_true q213
                try go_wp2_with (first | ((with_reducible refine gate_dst (N := 9) rfl ?_); refine box_event ?hg (N := 9) ?hd (cs := #[.int .u32 0, .int .u32 0, .int .i64 0, .slice none 0 0]) (t := 30) ?hr ?_; (case hd => rfl); (case hg => rfl); (case hr => first | (go_simp; done) | (go_simp; simp only [IntKind.wrap_u32]; done) | (go_simp; rfl)); intro gb214 hg w36 hbox hb; have n0_ := Aside0.mk (Kd.R_below (by (with_reducible repeat (first | apply Kd.R_alloc | apply Kd.R_drewN | apply Kd.R_drew)); exact HO_5.out) hb); have n1_ := Aside0.mk (Kd.R_below (by (with_reducible repeat (first | apply Kd.R_alloc | apply Kd.R_drewN | apply Kd.R_drew)); exact HO_7.out) hb); have n2_ := Aside0.mk (blk_below (g := gb190) (o := .cells #[.int .u32 a0_0, .slice (some ad213) l0_1.length c0_1] 26 (0, 0)) (by (with_reducible repeat (first | refine blk_drewN ?_ _ | refine blk_drew ?_ | refine blk_alloc ?_ _)); exact BK190.out) hb); have n3_ := Aside0.mk (below_step (by with_reducible repeat (first | exact HB.out | apply below_alloc | apply pw_below_drewN | apply below_drew1 | refine below_set ?_ GE190.out)) hb); have n4_ := Aside0.mk (hbox); have n5_ := Aside0.mk ((by rw [hg]; exact (below_size (by with_reducible repeat (first | exact HB.out | apply below_alloc | apply pw_below_drewN | apply below_drew1 | refine below_set ?_ GE190.out))) : w.heap.size ≤ gb214)); have n6_ := Aside0.mk ((by rw [hg]; exact (below_size (by with_reducible repeat (first | exact HB.out | apply below_alloc | apply pw_below_drewN | apply below_drew1 | refine below_set ?_ GE190.out))) : w.heap.size ≤ gb214)); have n7_ := Aside0.mk ((by rw [hg]; exact Nat.ne_of_lt (blk_lt (g := gb190) (o := .cells #[.int .u32 a0_0, .slice (some ad213) l0_1.length c0_1] 26 (0, 0)) (by (with_reducible repeat (first | refine blk_drewN ?_ _ | refine blk_drew ?_ | refine blk_alloc ?_ _)); exact BK190.out)) : gb190 ≠ gb214)); have n8_ := Aside0.mk ((by rw [hg]; exact Nat.ne_of_gt (blk_lt (g := gb190) (o := .cells #[.int .u32 a0_0, .slice (some ad213) l0_1.length c0_1] 26 (0, 0)) (by (with_reducible repeat (first | refine blk_drewN ?_ _ | refine blk_drew ?_ | refine blk_alloc ?_ _)); exact BK190.out)) : gb214 ≠ gb190)); clear HO_5; clear HO_7; clear BK190; clear HB; have HO_5 := n0_; have HO_7 := n1_; have BK190 := n2_; have HB := n3_; have BK214 := n4_; have GW214 := n5_; have GE214 := n6_; have NB190_214 := n7_; have NB214_190 := n8_; clear n0_ n1_ n2_ n3_ n4_ n5_ n6_ n7_ n8_; clear hb hbox hg; have hnb37 := NB214_190.out; have hnc37 := NB190_214.out; have hcz38_0 : w36.cell? ⟨gb214, 0, none⟩ = some (.int .u32 0) := (blk_cell BK214.out 0).trans rfl; have hcz38_1 : w36.cell? ⟨gb214, 1, none⟩ = some (.int .u32 0) := (blk_cell BK214.out 1).trans rfl; have hcz38_2 : w36.cell? ⟨gb214, 2, none⟩ = some (.int .i64 0) := (blk_cell BK214.out 2).trans rfl; have hcz38_3 : w36.cell? ⟨gb214, 3, none⟩ = some (.slice none 0 0) := (blk_cell BK214.out 3).trans rfl; have hfz38_0 := blk_frozen BK214.out 0; have hfz38_1 := blk_frozen BK214.out 1; have hfz38_2 := blk_frozen BK214.out 2; have hfz38_3 := blk_frozen BK214.out 3))
                have n0_ : Aside0 (Kd.R (Kd.int .u8) 5 ((((w36.setCell ⟨gb214, 0, none⟩ (.int .u32 ((rd_T30 l0_1 x38_1).f0))).setCell ⟨gb214, 1, none⟩ (.int .u32 ((rd_T30 l0_1 x38_1).f1))).setCell ⟨gb214, 2, none⟩ (.int .i64 ((rd_T30 l0_1 x38_1).f2))).setCell ⟨gb214, 3, none⟩ (.slice A213_3 ((rd_T30 l0_1 x38_1).f3).length c213_3)) w.heap.size (fun k_ => some k_ ≠ (u7 : Value).ownBlock) u5 x5_1) := ⟨by (with_reducible repeat (first | apply Kd.R_alloc | apply Kd.R_drewN | apply Kd.R_drew)); exact Kd.R_mono (Kd.R_far (p := ⟨gb214, 3, none⟩) (Kd.R_far (p := ⟨gb214, 2, none⟩) (Kd.R_far (p := ⟨gb214, 1, none⟩) (Kd.R_far (p := ⟨gb214, 0, none⟩) (Kd.R_types HO_5.out BK214.out (by decide)) (fun _ hk => hk.2) (.int .u32 ((rd_T30 l0_1 x38_1).f0))) (fun _ hk => hk.2) (.int .u32 ((rd_T30 l0_1 x38_1).f1))) (fun _ hk => hk.2) (.int .i64 ((rd_T30 l0_1 x38_1).f2))) (fun _ hk => hk.2) (.slice A213_3 ((rd_T30 l0_1 x38_1).f3).length c213_3)) (fun _ hk => hk.1)⟩
                have n1_ : Aside0 (Kd.R (Kd.int .u8) 5 ((((w36.setCell ⟨gb214, 0, none⟩ (.int .u32 ((rd_T30 l0_1 x38_1).f0))).setCell ⟨gb214, 1, none⟩ (.int .u32 ((rd_T30 l0_1 x38_1).f1))).setCell ⟨gb214, 2, none⟩ (.int .i64 ((rd_T30 l0_1 x38_1).f2))).setCell ⟨gb214, 3, none⟩ (.slice A213_3 ((rd_T30 l0_1 x38_1).f3).length c213_3)) w.heap.size (fun k_ => some k_ ≠ (u5 : Value).ownBlock) u7 x7_1) := ⟨by (with_reducible repeat (first | apply Kd.R_alloc | apply Kd.R_drewN | apply Kd.R_drew)); exact Kd.R_mono (Kd.R_far (p := ⟨gb214, 3, none⟩) (Kd.R_far (p := ⟨gb214, 2, none⟩) (Kd.R_far (p := ⟨gb214, 1, none⟩) (Kd.R_far (p := ⟨gb214, 0, none⟩) (Kd.R_types HO_7.out BK214.out (by decide)) (fun _ hk => hk.2) (.int .u32 ((rd_T30 l0_1 x38_1).f0))) (fun _ hk => hk.2) (.int .u32 ((rd_T30 l0_1 x38_1).f1))) (fun _ hk => hk.2) (.int .i64 ((rd_T30 l0_1 x38_1).f2))) (fun _ hk => hk.2) (.slice A213_3 ((rd_T30 l0_1 x38_1).f3).length c213_3)) (fun _ hk => hk.1)⟩
                have n2_ : Aside0 (((((w36.setCell ⟨gb214, 0, none⟩ (.int .u32 ((rd_T30 l0_1 x38_1).f0))).setCell ⟨gb214, 1, none⟩ (.int .u32 ((rd_T30 l0_1 x38_1).f1))).setCell ⟨gb214, 2, none⟩ (.int .i64 ((rd_T30 l0_1 x38_1).f2))).setCell ⟨gb214, 3, none⟩ (.slice A213_3 ((rd_T30 l0_1 x38_1).f3).length c213_3)).heap[gb190]? = some (.cells #[.int .u32 a0_0, .slice (some ad213) l0_1.length c0_1] 26 (0, 0))) := ⟨by (with_reducible repeat (first | refine blk_drewN ?_ _ | refine blk_drew ?_ | refine blk_alloc ?_ _)); refine blk_far ?_ NB190_214.out _; (with_reducible repeat (first | refine blk_drewN ?_ _ | refine blk_drew ?_ | refine blk_alloc ?_ _)); refine blk_far ?_ NB190_214.out _; (with_reducible repeat (first | refine blk_drewN ?_ _ | refine blk_drew ?_ | refine blk_alloc ?_ _)); refine blk_far ?_ NB190_214.out _; (with_reducible repeat (first | refine blk_drewN ?_ _ | refine blk_drew ?_ | refine blk_alloc ?_ _)); refine blk_far ?_ NB190_214.out _; (with_reducible repeat (first | refine blk_drewN ?_ _ | refine blk_drew ?_ | refine blk_alloc ?_ _)); exact BK190.out⟩
                have n3_ : Aside0 (((((w36.setCell ⟨gb214, 0, none⟩ (.int .u32 ((rd_T30 l0_1 x38_1).f0))).setCell ⟨gb214, 1, none⟩ (.int .u32 ((rd_T30 l0_1 x38_1).f1))).setCell ⟨gb214, 2, none⟩ (.int .i64 ((rd_T30 l0_1 x38_1).f2))).setCell ⟨gb214, 3, none⟩ (.slice A213_3 ((rd_T30 l0_1 x38_1).f3).length c213_3)).heap[gb214]? = some (.cells #[.int .u32 ((rd_T30 l0_1 x38_1).f0), .int .u32 ((rd_T30 l0_1 x38_1).f1), .int .i64 ((rd_T30 l0_1 x38_1).f2), .slice A213_3 ((rd_T30 l0_1 x38_1).f3).length c213_3] 30 (0, 0))) := ⟨by (with_reducible repeat (first | refine blk_drewN ?_ _ | refine blk_drew ?_ | refine blk_alloc ?_ _)); refine blk_put (cs := #[.int .u32 ((rd_T30 l0_1 x38_1).f0), .int .u32 ((rd_T30 l0_1 x38_1).f1), .int .i64 ((rd_T30 l0_1 x38_1).f2), .slice none 0 0]) ?_ 3 _ rfl; (with_reducible repeat (first | refine blk_drewN ?_ _ | refine blk_drew ?_ | refine blk_alloc ?_ _)); refine blk_put (cs := #[.int .u32 ((rd_T30 l0_1 x38_1).f0), .int .u32 ((rd_T30 l0_1 x38_1).f1), .int .i64 0, .slice none 0 0]) ?_ 2 _ rfl; (with_reducible repeat (first | refine blk_drewN ?_ _ | refine blk_drew ?_ | refine blk_alloc ?_ _)); refine blk_put (cs := #[.int .u32 ((rd_T30 l0_1 x38_1).f0), .int .u32 0, .int .i64 0, .slice none 0 0]) ?_ 1 _ rfl; (with_reducible repeat (first | refine blk_drewN ?_ _ | refine blk_drew ?_ | refine blk_alloc ?_ _)); refine blk_put (cs := #[.int .u32 0, .int .u32 0, .int .i64 0, .slice none 0 0]) ?_ 0 _ rfl; (with_reducible repeat (first | refine blk_drewN ?_ _ | refine blk_drew ?_ | refine blk_alloc ?_ _)); exact BK214.out⟩
                have n4_ : Aside0 (Below w.heap.size w ((((w36.setCell ⟨gb214, 0, none⟩ (.int .u32 ((rd_T30 l0_1 x38_1).f0))).setCell ⟨gb214, 1, none⟩ (.int .u32 ((rd_T30 l0_1 x38_1).f1))).setCell ⟨gb214, 2, none⟩ (.int .i64 ((rd_T30 l0_1 x38_1).f2))).setCell ⟨gb214, 3, none⟩ (.slice A213_3 ((rd_T30 l0_1 x38_1).f3).length c213_3))) := ⟨by repeat (first | (with_reducible first | exact HB.out | apply below_alloc | apply pw_below_drewN | apply below_drew1 | refine below_set ?_ GE190.out | refine below_set ?_ GE214.out) | exact HB.out)⟩
                (try clear HO_5)
                (try clear HO_7)
                (try clear BK190)
                (try clear BK214)
                (try clear HB)
                generalize ((((w36.setCell ⟨gb214, 0, none⟩ (.int .u32 ((rd_T30 l0_1 x38_1).f0))).setCell ⟨gb214, 1, none⟩ (.int .u32 ((rd_T30 l0_1 x38_1).f1))).setCell ⟨gb214, 2, none⟩ (.int .i64 ((rd_T30 l0_1 x38_1).f2))).setCell ⟨gb214, 3, none⟩ (.slice A213_3 ((rd_T30 l0_1 x38_1).f3).length c213_3)) = w39 at n0_ n1_ n2_ n3_ n4_ ⊢
                have HO_5 := n0_
                have HO_7 := n1_
                have BK190 := n2_
                have BK214 := n3_
                have HB := n4_
                clear n0_ n1_ n2_ n3_ n4_
                have n0_ := Aside0.mk (Kd.R_drew HO_5.out)
                have n1_ := Aside0.mk (Kd.R_drew HO_7.out)
                have n2_ := Aside0.mk (blk_drew BK190.out)
                have n3_ := Aside0.mk (blk_drew BK214.out)
                have n4_ := Aside0.mk (below_drew1 HB.out)
                clear HO_5 HO_7 BK190 BK214 HB
                have HO_5 := n0_
                have HO_7 := n1_
                have BK190 := n2_
                have BK214 := n3_
                have HB := n4_
                clear n0_ n1_ n2_ n3_ n4_
                obtain ⟨Ao41, co41, eo41⟩ := Kd.R_slice HO_7.out
                (first | subst eo41 | (injection eo41 with f1_ f2_ f3_; have f4_ := f1_.symm; have f5_ := f3_.symm; clear f1_ f2_ f3_; subst f4_; subst f5_))
                refine start_ (n := 23) (S := fun w' => w'.cell? ⟨gb214, 0, none⟩ = some (.int .u32 ((rd_T30 l0_1 x38_1).f0)) ∧ w'.cell? ⟨gb214, 1, none⟩ = some (.int .u32 ((rd_T30 l0_1 x38_1).f1)) ∧ w'.cell? ⟨gb214, 2, none⟩ = some (.int .i64 ((rd_T30 l0_1 x38_1).f2)) ∧ w'.cell? ⟨gb214, 3, none⟩ = some (.slice A213_3 ((rd_T30 l0_1 x38_1).f3).length c213_3)) (ds := []) #[ff, ff, ff, ff, ff, ff, ff, ff, ff, ff, ff, ff, ff, ff, ff, ff, ff, ff, ff, ff, ff, ff, ff] (by kernel_rfl) rfl rfl ⟨(blk_cell BK214.out 0).trans rfl, (blk_cell BK214.out 1).trans rfl, (blk_cell BK214.out 2).trans rfl, (blk_cell BK214.out 3).trans rfl⟩ (fun hHeld => ?_); refine with_tabW image_Put.tab12 image_Put.bits12 (fun HT_ HW_ => ?_)
                generalize w39.drew = w40 at HO_5 HO_7 BK190 BK214 HB hHeld ⊢
                refine pure_ (i := 0) (N := some 42) (v := ?_) (a' := ?_) #[tt, ff, ff, ff, ff, ff, ff, ff, ff, ff, ff, ff, ff, ff, ff, ff, ff, ff, ff, ff, ff, ff, ff] rfl rfl (any_of HT_.out (by kernel_rfl)) (fun _ _ _ h => h) (Or.inl ⟨by rfl, ?_⟩) ?_ ?_
                rotate_left
                · intro w'
                  go_simp
                  with_reducible rfl
                rotate_left
                · simp only [Act.put, List.setIfInBounds_toArray, List.set_cons_zero, List.set_cons_succ, i64_w, i32_w]
                  rfl
                refine pure_ (i := 1) (N := some 43) (v := ?_) (a' := ?_) #[tt, tt, ff, ff, ff, ff, ff, ff, ff, ff, ff, ff, ff, ff, ff, ff, ff, ff, ff, ff, ff, ff, ff] rfl rfl (any_of HT_.out (by kernel_rfl)) (fun _ _ _ h => h) (Or.inl ⟨by rfl, ?_⟩) ?_ ?_
                rotate_left
                · intro w'
                  go_simp
                  with_reducible rfl
                rotate_left
                · simp only [Act.put, List.setIfInBounds_toArray, List.set_cons_zero, List.set_cons_succ, i64_w, i32_w]
                  rfl
                refine pure_ (i := 2) (N := some 44) (v := ?_) (a' := ?_) #[tt, tt, tt, ff, ff, ff, ff, ff, ff, ff, ff, ff, ff, ff, ff, ff, ff, ff, ff, ff, ff, ff, ff] rfl rfl (any_of HT_.out (by kernel_rfl)) (fun _ _ _ h => h) (Or.inl ⟨by rfl, ?_⟩) ?_ ?_
                rotate_left
                · intro w'
                  go_simp
                  with_reducible rfl
                rotate_left
                · simp only [Act.put, List.setIfInBounds_toArray, List.set_cons_zero, List.set_cons_succ, i64_w, i32_w]
                  rfl
                refine pure_ (i := 3) (N := some 45) (v := ?_) (a' := ?_) #[tt, tt, tt, tt, ff, ff, ff, ff, ff, ff, ff, ff, ff, ff, ff, ff, ff, ff, ff, ff, ff, ff, ff] rfl rfl (any_of HT_.out (by kernel_rfl)) (fun _ _ _ h => h) (Or.inl ⟨by rfl, ?_⟩) ?_ ?_
                rotate_left
                · intro w'
                  go_simp
                  with_reducible rfl
                rotate_left
                · simp only [Act.put, List.setIfInBounds_toArray, List.set_cons_zero, List.set_cons_succ, i64_w, i32_w]
                  rfl
                refine pure_ (i := 4) (N := some 46) (v := ?_) (a' := ?_) #[tt, tt, tt, tt, tt, ff, ff, ff, ff, ff, ff, ff, ff, ff, ff, ff, ff, ff, ff, ff, ff, ff, ff] rfl rfl (any_of HT_.out (by kernel_rfl)) (fun _ _ _ h => h) (Or.inl ⟨by rfl, ?_⟩) ?_ ?_
                rotate_left
                · intro w'
                  go_simp
                  with_reducible rfl
                rotate_left
                · simp only [Act.put, List.setIfInBounds_toArray, List.set_cons_zero, List.set_cons_succ, i64_w, i32_w]
                  rfl
                refine pure_ (i := 5) (N := some 47) (v := ?_) (a' := ?_) #[tt, tt, tt, tt, tt, tt, ff, ff, ff, ff, ff, ff, ff, ff, ff, ff, ff, ff, ff, ff, ff, ff, ff] rfl rfl (any_of HT_.out (by kernel_rfl)) (fun _ _ _ h => h) (Or.inl ⟨by rfl, ?_⟩) ?_ ?_
                rotate_left
                · intro w'
                  go_simp
                  with_reducible rfl
                rotate_left
                · simp only [Act.put, List.setIfInBounds_toArray, List.set_cons_zero, List.set_cons_succ, i64_w, i32_w]
                  rfl
                refine pure_ (i := 6) (N := some 48) (v := ?_) (a' := ?_) #[tt, tt, tt, tt, tt, tt, tt, ff, ff, ff, ff, ff, ff, ff, ff, ff, ff, ff, ff, ff, ff, ff, ff] rfl rfl (any_of HT_.out (by kernel_rfl)) (fun _ _ _ h => h) (Or.inl ⟨by rfl, ?_⟩) ?_ ?_
                rotate_left
                · intro w'
                  go_simp
                  with_reducible rfl
                rotate_left
                · simp only [Act.put, List.setIfInBounds_toArray, List.set_cons_zero, List.set_cons_succ, i64_w, i32_w]
                  rfl
                refine pure_ (i := 8) (N := some 50) (v := ?_) (a' := ?_) #[tt, tt, tt, tt, tt, tt, tt, ff, tt, ff, ff, ff, ff, ff, ff, ff, ff, ff, ff, ff, ff, ff, ff] rfl rfl (any_of HT_.out (by kernel_rfl)) (fun _ _ _ h => h) (Or.inl ⟨by rfl, ?_⟩) ?_ ?_
                rotate_left
                · intro w'
                  go_simp
                  with_reducible rfl
                rotate_left
                · simp only [Act.put, List.setIfInBounds_toArray, List.set_cons_zero, List.set_cons_succ, i64_w, i32_w]
                  rfl
                refine pure_ (i := 10) (N := some 52) (v := ?_) (a' := ?_) #[tt, tt, tt, tt, tt, tt, tt, ff, tt, ff, tt, ff, ff, ff, ff, ff, ff, ff, ff, ff, ff, ff, ff] rfl rfl (any_of HT_.out (by kernel_rfl)) (fun _ _ _ h => h) (Or.inl ⟨by rfl, ?_⟩) ?_ ?_
                rotate_left
                · intro w'
                  go_simp
                  with_reducible rfl
                rotate_left
                · simp only [Act.put, List.setIfInBounds_toArray, List.set_cons_zero, List.set_cons_succ, i64_w, i32_w]
                  rfl
                refine pure_ (i := 14) (N := some 56) (v := ?_) (a' := ?_) #[tt, tt, tt, tt, tt, tt, tt, ff, tt, ff, tt, ff, ff, ff, tt, ff, ff, ff, ff, ff, ff, ff, ff] rfl rfl (any_of HT_.out (by kernel_rfl)) (fun _ _ _ h => h) (Or.inl ⟨by rfl, ?_⟩) ?_ ?_
                rotate_left
                · intro w'
                  go_simp
                  with_reducible rfl
                rotate_left
                · simp only [Act.put, List.setIfInBounds_toArray, List.set_cons_zero, List.set_cons_succ, i64_w, i32_w]
                  rfl
                refine pure_ (i := 16) (N := some 58) (v := ?_) (a' := ?_) #[tt, tt, tt, tt, tt, tt, tt, ff, tt, ff, tt, ff, ff, ff, tt, ff, tt, ff, ff, ff, ff, ff, ff] rfl rfl (any_of HT_.out (by kernel_rfl)) (fun _ _ _ h => h) (Or.inl ⟨by rfl, ?_⟩) ?_ ?_
                rotate_left
                · intro w'
                  go_simp
                  with_reducible rfl
                rotate_left
                · simp only [Act.put, List.setIfInBounds_toArray, List.set_cons_zero, List.set_cons_succ, i64_w, i32_w]
                  rfl
                refine take_ (i := 7) (N := some 49) (v := ?_) (a' := ?_) #[tt, tt, tt, tt, tt, tt, tt, tt, tt, ff, tt, ff, ff, ff, tt, ff, tt, ff, ff, ff, ff, ff, ff] rfl rfl (take_ofW HT_.out HW_.out (by kernel_rfl)) (fun _ _ _ h => h) (Or.inl ⟨by rfl, ?_⟩) hHeld ?_ ?_
                rotate_left
                · rintro w' ⟨s0, s1, s2, s3⟩
                  go_simp
                  with_reducible rfl
                rotate_left
                · simp only [Act.put, List.setIfInBounds_toArray, List.set_cons_zero, List.set_cons_succ, i64_w, i32_w]
                  rfl
                refine take_ (i := 9) (N := some 51) (v := ?_) (a' := ?_) #[tt, tt, tt, tt, tt, tt, tt, tt, tt, tt, tt, ff, ff, ff, tt, ff, tt, ff, ff, ff, ff, ff, ff] rfl rfl (take_ofW HT_.out HW_.out (by kernel_rfl)) (fun _ _ _ h => h) (Or.inl ⟨by rfl, ?_⟩) hHeld ?_ ?_
                rotate_left
                · rintro w' ⟨s0, s1, s2, s3⟩
                  go_simp
                  with_reducible rfl
                rotate_left
                · simp only [Act.put, List.setIfInBounds_toArray, List.set_cons_zero, List.set_cons_succ, i64_w, i32_w]
                  rfl
                refine take_ (i := 11) (N := some 53) (v := ?_) (a' := ?_) #[tt, tt, tt, tt, tt, tt, tt, tt, tt, tt, tt, tt, ff, ff, tt, ff, tt, ff, ff, ff, ff, ff, ff] rfl rfl (take_ofW HT_.out HW_.out (by kernel_rfl)) (fun _ _ _ h => h) (Or.inl ⟨by rfl, ?_⟩) hHeld ?_ ?_
                rotate_left
                · rintro w' ⟨s0, s1, s2, s3⟩
                  go_simp
                  with_reducible rfl
                rotate_left
                · simp only [Act.put, List.setIfInBounds_toArray, List.set_cons_zero, List.set_cons_succ, i64_w, i32_w]
                  rfl
                refine pure_ (i := 12) (N := some 54) (v := ?_) (a' := ?_) #[tt, tt, tt, tt, tt, tt, tt, tt, tt, tt, tt, tt, tt, ff, tt, ff, tt, ff, ff, ff, ff, ff, ff] rfl rfl (any_of HT_.out (by kernel_rfl)) (fun _ _ _ h => h) (Or.inl ⟨by rfl, ?_⟩) ?_ ?_
                rotate_left
                · intro w'
                  go_simp
                  with_reducible rfl
                rotate_left
                · simp only [Act.put, List.setIfInBounds_toArray, List.set_cons_zero, List.set_cons_succ, i64_w, i32_w]
                  rfl
                refine pure_ (i := 13) (N := some 55) (v := ?_) (a' := ?_) #[tt, tt, tt, tt, tt, tt, tt, tt, tt, tt, tt, tt, tt, tt, tt, ff, tt, ff, ff, ff, ff, ff, ff] rfl rfl (any_of HT_.out (by kernel_rfl)) (fun _ _ _ h => h) (Or.inl ⟨by rfl, ?_⟩) ?_ ?_
                rotate_left
                · intro w'
                  go_simp
                  with_reducible rfl
                rotate_left
                · simp only [Act.put, List.setIfInBounds_toArray, List.set_cons_zero, List.set_cons_succ, i64_w, i32_w]
                  rfl
                refine take_ (i := 15) (N := some 57) (v := ?_) (a' := ?_) #[tt, tt, tt, tt, tt, tt, tt, tt, tt, tt, tt, tt, tt, tt, tt, tt, tt, ff, ff, ff, ff, ff, ff] rfl rfl (take_ofW HT_.out HW_.out (by kernel_rfl)) (fun _ _ _ h => h) (Or.inl ⟨by rfl, ?_⟩) hHeld ?_ ?_
                rotate_left
                · rintro w' ⟨s0, s1, s2, s3⟩
                  go_simp
                  with_reducible rfl
                rotate_left
                · simp only [Act.put, List.setIfInBounds_toArray, List.set_cons_zero, List.set_cons_succ, i64_w, i32_w]
                  rfl
                refine take_ (i := 17) (N := some 59) (v := ?_) (a' := ?_) #[tt, tt, tt, tt, tt, tt, tt, tt, tt, tt, tt, tt, tt, tt, tt, tt, tt, tt, ff, ff, ff, ff, ff] rfl rfl (take_ofW HT_.out HW_.out (by kernel_rfl)) (fun _ _ _ h => h) (Or.inl ⟨by rfl, ?_⟩) hHeld ?_ ?_
                rotate_left
                · rintro w' ⟨s0, s1, s2, s3⟩
                  go_simp
                  with_reducible rfl
                rotate_left
                · simp only [Act.put, List.setIfInBounds_toArray, List.set_cons_zero, List.set_cons_succ, i64_w, i32_w]
                  rfl
                refine one_ (i := 18) (N := some 60) #[tt, tt, tt, tt, tt, tt, tt, tt, tt, tt, tt, tt, tt, tt, tt, tt, tt, tt, tt, ff, ff, ff, ff] rfl rfl (one_of HT_.out (by kernel_rfl)) (by decide) (fun K hK => ?_)
                refine goes_ Try.func24 (by kernel_rfl) rfl #[.int .i64 ((rd_T30 l0_1 x38_1).f2)] (by rfl) rfl rfl (by (try simp only [List.map_toArray, List.map_cons, List.map_nil]); first | done | rfl | (simp only [List.length_drop, List.length_take]; rfl)) ?_
                with_reducible refine (image_turned.calls ((rd_T30 l0_1 x38_1).f2) t215 _ A33.out).mono ?_
                rintro e w' ⟨rfl, ⟨nd, rfl⟩⟩
                refine ⟨_, rfl, ?_⟩
                refine hK.out _ _ ⟨(blk_cell BK214.out 0).trans rfl, (blk_cell BK214.out 1).trans rfl, (blk_cell BK214.out 2).trans rfl, (blk_cell BK214.out 3).trans rfl⟩ (fun hHeld => ?_)
                clear hK K
                refine norm_ (a' := ?_) ?_ ?_
                rotate_left
                · show Act.put _ (some 60) _ = _
                  simp only [Act.put, List.setIfInBounds_toArray, List.set_cons_zero, List.set_cons_succ, i64_w, i32_w]
                  rfl
                refine pure_ (i := 19) (N := some 61) (v := ?_) (a' := ?_) #[tt, tt, tt, tt, tt, tt, tt, tt, tt, tt, tt, tt, tt, tt, tt, tt, tt, tt, tt, tt, ff, ff, ff] rfl rfl (any_of HT_.out (by kernel_rfl)) (fun _ _ _ h => h) (Or.inl ⟨by rfl, ?_⟩) ?_ ?_
                rotate_left
                · intro w'
                  go_simp
                  with_reducible rfl
                rotate_left
                · simp only [Act.put, List.setIfInBounds_toArray, List.set_cons_zero, List.set_cons_succ, i64_w, i32_w]
                  rfl
                refine one_ (i := 20) (N := some 62) #[tt, tt, tt, tt, tt, tt, tt, tt, tt, tt, tt, tt, tt, tt, tt, tt, tt, tt, tt, tt, tt, ff, ff] rfl rfl (one_of HT_.out (by kernel_rfl)) (by decide) (fun K hK => ?_)
                refine Kd.R_lit_step (Kd.int .u32) _ 23 ?hg (N := 62) ?hd (xs := ([1, (wrap64 ((wrap64 (52 + (wrap64 (32 * (l0_1.length : Int))))) + (x7_1.length : Int))) % 4294967296, (rd_T30 l0_1 x38_1).f0, (rd_T30 l0_1 x38_1).f0, ((((rd_T30 l0_1 x38_1).f3).length : Int)) % 4294967296, (rd_T30 l0_1 x38_1).f1, (t215) % 4294967296, 256] : List Int)) (inner := [.int .u32 1, .int .u32 ((wrap64 ((wrap64 (52 + (wrap64 (32 * (l0_1.length : Int))))) + (x7_1.length : Int))) % 4294967296), .int .u32 ((rd_T30 l0_1 x38_1).f0), .int .u32 ((rd_T30 l0_1 x38_1).f0), .int .u32 (((((rd_T30 l0_1 x38_1).f3).length : Int)) % 4294967296), .int .u32 ((rd_T30 l0_1 x38_1).f1), .int .u32 ((t215) % 4294967296), .int .u32 256]) (ok := fun _ => True) (okp := fun _ => True) ?hr ?hp (fun _ hk => hk) trivial (Below.refl _ _) (Nat.le_refl _) (by simp) ?_; (case hd => rfl); (case hg => rfl); (case hr => first | (go_simp; done) | (go_simp; simp only [IntKind.wrap_u32]; done) | (go_simp; rfl)); (case hp => exact (Reps.one (show Kd.M (Kd.int .u32) _ _ _ 1 [.int .u32 1] from rfl) (Reps.one (show Kd.M (Kd.int .u32) _ _ _ ((wrap64 ((wrap64 (52 + (wrap64 (32 * (l0_1.length : Int))))) + (x7_1.length : Int))) % 4294967296) [.int .u32 ((wrap64 ((wrap64 (52 + (wrap64 (32 * (l0_1.length : Int))))) + (x7_1.length : Int))) % 4294967296)] from rfl) (Reps.one (show Kd.M (Kd.int .u32) _ _ _ ((rd_T30 l0_1 x38_1).f0) [.int .u32 ((rd_T30 l0_1 x38_1).f0)] from rfl) (Reps.one (show Kd.M (Kd.int .u32) _ _ _ ((rd_T30 l0_1 x38_1).f0) [.int .u32 ((rd_T30 l0_1 x38_1).f0)] from rfl) (Reps.one (show Kd.M (Kd.int .u32) _ _ _ (((((rd_T30 l0_1 x38_1).f3).length : Int)) % 4294967296) [.int .u32 (((((rd_T30 l0_1 x38_1).f3).length : Int)) % 4294967296)] from rfl) (Reps.one (show Kd.M (Kd.int .u32) _ _ _ ((rd_T30 l0_1 x38_1).f1) [.int .u32 ((rd_T30 l0_1 x38_1).f1)] from rfl) (Reps.one (show Kd.M (Kd.int .u32) _ _ _ ((t215) % 4294967296) [.int .u32 ((t215) % 4294967296)] from rfl) (Reps.one (show Kd.M (Kd.int .u32) _ _ _ 256 [.int .u32 256] from rfl) (Reps.none _ _))))))))))
                intro v217 w42 ho43 hb hg_ hnew_
                clear hg_ hnew_
                (first | rw [← Ny216.out] at ho43 | (simp only [Int.reduceToNat] at ho43; rw [← Ny216.out] at ho43))
                have n0_ := Aside0.mk (Kd.R_below (by (with_reducible repeat (first | apply Kd.R_alloc | apply Kd.R_drewN | apply Kd.R_drew)); exact HO_5.out) hb)
                have n1_ := Aside0.mk (Kd.R_below (by (with_reducible repeat (first | apply Kd.R_alloc | apply Kd.R_drewN | apply Kd.R_drew)); exact HO_7.out) hb)
                have n2_ := Aside0.mk (Kd.R_lower ho43 (below_size (by with_reducible repeat (first | exact HB.out | apply below_alloc | apply pw_below_drewN | apply below_drew1 | refine below_set ?_ GE190.out | refine below_set ?_ GE214.out))))
                have n3_ := Aside0.mk (blk_below (g := gb190) (o := .cells #[.int .u32 a0_0, .slice (some ad213) l0_1.length c0_1] 26 (0, 0)) (by (with_reducible repeat (first | refine blk_drewN ?_ _ | refine blk_drew ?_ | refine blk_alloc ?_ _)); exact BK190.out) hb)
                have n4_ := Aside0.mk (blk_below (g := gb214) (o := .cells #[.int .u32 ((rd_T30 l0_1 x38_1).f0), .int .u32 ((rd_T30 l0_1 x38_1).f1), .int .i64 ((rd_T30 l0_1 x38_1).f2), .slice A213_3 ((rd_T30 l0_1 x38_1).f3).length c213_3] 30 (0, 0)) (by (with_reducible repeat (first | refine blk_drewN ?_ _ | refine blk_drew ?_ | refine blk_alloc ?_ _)); exact BK214.out) hb)
                have n5_ := Aside0.mk (below_step (by with_reducible repeat (first | exact HB.out | apply below_alloc | apply pw_below_drewN | apply below_drew1 | refine below_set ?_ GE190.out | refine below_set ?_ GE214.out)) hb)
                clear HO_5 HO_7 BK190 BK214 HB
                have HO_5 := n0_
                have HO_7 := n1_
                have HO218 := n2_
                have BK190 := n3_
                have BK214 := n4_
                have HB := n5_
                clear n0_ n1_ n2_ n3_ n4_ n5_ hb ho43
                obtain ⟨Ao44, co44, eo44⟩ := Kd.R_slice HO_5.out
                (first | subst eo44 | (injection eo44 with f1_ f2_ f3_; have f4_ := f1_.symm; have f5_ := f3_.symm; clear f1_ f2_ f3_; subst f4_; subst f5_))
                obtain ⟨Ao45, co45, eo45⟩ := Kd.R_slice HO218.out
                (first | subst eo45 | (injection eo45 with f1_ f2_ f3_; have f4_ := f1_.symm; have f5_ := f3_.symm; clear f1_ f2_ f3_; subst f4_; subst f5_))
                refine hK.out _ _ ⟨(blk_cell BK214.out 0).trans rfl, (blk_cell BK214.out 1).trans rfl, (blk_cell BK214.out 2).trans rfl, (blk_cell BK214.out 3).trans rfl⟩ (fun hHeld => ?_)
                clear hK K
                refine norm_ (a' := ?_) ?_ ?_
                rotate_left
                · show Act.put _ (some 62) _ = _
                  simp only [Act.put, List.setIfInBounds_toArray, List.set_cons_zero, List.set_cons_succ, i64_w, i32_w]
                  rfl
                refine one_ (i := 21) (N := some 63) #[tt, tt, tt, tt, tt, tt, tt, tt, tt, tt, tt, tt, tt, tt, tt, tt, tt, tt, tt, tt, tt, tt, ff] rfl rfl (one_of HT_.out (by kernel_rfl)) (by decide) (fun K hK => ?_)
                refine goes_ Try.func22 (by kernel_rfl) rfl #[.slice Ao44 x5_1.length co44, .int .i64 4, .slice Ao45 y216.length co45] (by rfl) rfl rfl (by (try simp only [List.map_toArray, List.map_cons, List.map_nil]); first | done | rfl | (simp only [List.length_drop, List.length_take]; rfl)) ?_
                with_reducible refine (image_put.calls k1 (fun k_ => some k_ = (.slice Ao44 x5_1.length co44 : Value).ownBlock) (.slice Ao44 x5_1.length co44) x5_1 4 _ _ y216 t219 w _ ?side1 ?side2 ?side3 ?side4 A34.out).mono ?_
                (case side1 => repeat (first | (with_reducible first | exact HB.out | apply below_alloc | apply pw_below_drewN | apply below_drew1 | refine below_set ?_ GE190.out | refine below_set ?_ GE214.out) | exact HB.out))
                (case side2 => exact Kd.R_tight rfl HO_5.out)
                (case side3 => exact Kd.C_kept_own ((Kd.R_apart' HO218.out (Kd.R_typed HO_5.out) (by decide))) (fun k_ hk_ hs_ => (hk_.2) hs_))
                (case side4 => exact (Kd.R_reads' HO218.out).2.1)
                rintro e w46 ⟨v220, rfl, ho0, hb, hkp⟩
                refine ⟨_, rfl, ?_⟩
                have n0_ := Aside0.mk (Kd.R_mono (ok' := fun k_ => some k_ ≠ (v220 : Value).ownBlock) (Kd.R_keptB (HO_7.out) hkp (fun k_ hk_ hs_ => (hk_) hs_)) (fun k_ hk_ => fun e_ => Or.elim (ho0.1 k_ e_.symm) (fun hs_ => hk_.2.1 hs_) (fun hn_ => Nat.not_le.2 hk_.2.2 hn_)))
                have n1_ := Aside0.mk (blk_kept (by (with_reducible repeat (first | refine blk_drewN ?_ _ | refine blk_drew ?_ | refine blk_alloc ?_ _)); exact BK190.out) hkp (fun hs_ => (fun e_ => (Kd.R_ne HO_5.out BK190.out (by decide)) e_) hs_))
                have n2_ := Aside0.mk (blk_kept (by (with_reducible repeat (first | refine blk_drewN ?_ _ | refine blk_drew ?_ | refine blk_alloc ?_ _)); exact BK214.out) hkp (fun hs_ => (fun e_ => (Kd.R_ne HO_5.out BK214.out (by decide)) e_) hs_))
                have n3_ := Aside0.mk (Kd.R_mono (ok' := fun k_ => True) (Kd.R_keptB ((Kd.R_apart' HO218.out (Kd.R_typed HO_5.out) (by decide))) hkp (fun k_ hk_ hs_ => (hk_.2) hs_)) (fun k_ hk_ => trivial))
                have n4_ := Aside0.mk (Kd.R_mono (ok' := fun k_ => some k_ ≠ (.slice Ao41 x7_1.length co41 : Value).ownBlock) ho0 (fun k_ hk_ => Or.elim hk_ (fun hs_ => fun e_ => (((HO_7.out).1 k_ e_.symm)) hs_) (fun hn_ => (Kd.fresh' (Kd.R_lt (by (with_reducible repeat (first | apply Kd.R_alloc | apply Kd.R_drewN | apply Kd.R_drew)); exact HO_7.out)) k_ hn_))))
                have n5_ := Aside0.mk (hb)
                clear HO_7 BK190 BK214 HO218 HB HO_5
                have HO_7 := n0_
                have BK190 := n1_
                have BK214 := n2_
                have HO218 := n3_
                have HO221 := n4_
                have HB := n5_
                clear n0_ n1_ n2_ n3_ n4_ n5_
                (try clear hb)
                (try clear hkp)
                (try clear ho0)
                refine hK.out _ _ ⟨(blk_cell BK214.out 0).trans rfl, (blk_cell BK214.out 1).trans rfl, (blk_cell BK214.out 2).trans rfl, (blk_cell BK214.out 3).trans rfl⟩ (fun hHeld => ?_)
                clear hK K
                refine norm_ (a' := ?_) ?_ ?_
                rotate_left
                · show Act.put _ (some 63) _ = _
                  simp only [Act.put, List.setIfInBounds_toArray, List.set_cons_zero, List.set_cons_succ, i64_w, i32_w]
                  rfl
                refine pure_ (i := 22) (N := some 5) (v := ?_) (a' := ?_) #[tt, tt, tt, tt, tt, tt, tt, tt, tt, tt, tt, tt, tt, tt, tt, tt, tt, tt, tt, tt, tt, tt, tt] rfl rfl (any_of HT_.out (by kernel_rfl)) (fun _ _ _ h => h) (Or.inl ⟨by rfl, ?_⟩) ?_ ?_
                rotate_left
                · intro w'
                  go_simp
                  with_reducible rfl
                rotate_left
                · simp only [Act.put, List.setIfInBounds_toArray, List.set_cons_zero, List.set_cons_succ, i64_w, i32_w]
                  rfl
                refine done_ (done_of HT_.out (by kernel_rfl)) ?_
                have hcz47_0 : w46.cell? ⟨gb214, 0, none⟩ = some (.int .u32 ((rd_T30 l0_1 x38_1).f0)) := (blk_cell BK214.out 0).trans rfl
                have hcz47_1 : w46.cell? ⟨gb214, 1, none⟩ = some (.int .u32 ((rd_T30 l0_1 x38_1).f1)) := (blk_cell BK214.out 1).trans rfl
                have hcz47_2 : w46.cell? ⟨gb214, 2, none⟩ = some (.int .i64 ((rd_T30 l0_1 x38_1).f2)) := (blk_cell BK214.out 2).trans rfl
                have hcz47_3 : w46.cell? ⟨gb214, 3, none⟩ = some (.slice A213_3 ((rd_T30 l0_1 x38_1).f3).length c213_3) := (blk_cell BK214.out 3).trans rfl
                have hfz47_0 := blk_frozen BK214.out 0
                have hfz47_1 := blk_frozen BK214.out 1
                have hfz47_2 := blk_frozen BK214.out 2
                have hfz47_3 := blk_frozen BK214.out 3
                try go_wp2_with (first | ((with_reducible refine gate_builtin (b := .append) (xs := #[.tmp 64, .tmp 66]) rfl ?_); at_builtin; refine Kd.R_append_rows (Kd.int .u8) (w0 := w) w.heap.size rfl (.tmp 64) (.tmp 66) 28 5 (.int .u8 0) 1 rfl Try.underlying28 info5 rfl (by decide) (by omega) (.slice Ao41 x7_1.length co41) x7_1 ((rd_T30 l0_1 x38_1).f3) _ _ _ (fun k_ => some k_ ≠ (v220 : Value).ownBlock) (fun _ => False) rfl rfl ?aO ?aR (fun _ _ h => h) (fun _ h => h.elim) ?aF ?aB ?aS ?aL ?_; (case aR => repeat (first | exact (Kd.C_below HR213_3.out HB.out) | (with_reducible refine Kd.C_alloc ?_ _) | (with_reducible refine Kd.C_drewN ?_ _) | (with_reducible refine Kd.C_drew ?_))); (case aB => exact (by with_reducible repeat (first | exact HB.out | apply below_alloc | apply pw_below_drewN | apply below_drew1 | refine below_set ?_ GE190.out | refine below_set ?_ GE214.out))); (case aF => exact (fun k_ hk => Kd.fresh' (Kd.R_lt (by (with_reducible repeat (first | apply Kd.R_alloc | apply Kd.R_drewN | apply Kd.R_drew)); exact HO221.out)) k_ hk)); (case aO => exact (by (with_reducible repeat (first | apply Kd.R_alloc | apply Kd.R_drewN | apply Kd.R_drew)); exact HO_7.out)); (case aS => exact (below_size (by with_reducible repeat (first | exact HB.out | apply below_alloc | apply pw_below_drewN | apply below_drew1 | refine below_set ?_ GE190.out | refine below_set ?_ GE214.out)))); (case aL => have := LMc35.out; omega); intro v223 w48 ho hb hg hat; rw [← Ny222.out] at ho; have n0_ := Aside0.mk (blk_grown (g := gb190) (o := .cells #[.int .u32 a0_0, .slice (some ad213) l0_1.length c0_1] 26 (0, 0)) (by (with_reducible repeat (first | refine blk_drewN ?_ _ | refine blk_drew ?_ | refine blk_alloc ?_ _)); exact BK190.out) hg (Kd.R_ne HO_7.out BK190.out (by decide))); have n1_ := Aside0.mk (blk_grown (g := gb214) (o := .cells #[.int .u32 ((rd_T30 l0_1 x38_1).f0), .int .u32 ((rd_T30 l0_1 x38_1).f1), .int .i64 ((rd_T30 l0_1 x38_1).f2), .slice A213_3 ((rd_T30 l0_1 x38_1).f3).length c213_3] 30 (0, 0)) (by (with_reducible repeat (first | refine blk_drewN ?_ _ | refine blk_drew ?_ | refine blk_alloc ?_ _)); exact BK214.out) hg (Kd.R_ne HO_7.out BK214.out (by decide))); have n2_ := Aside0.mk (Kd.R_over' (by (with_reducible repeat (first | apply Kd.R_alloc | apply Kd.R_drewN | apply Kd.R_drew)); exact HO218.out) (Kd.R_typed (by (with_reducible repeat (first | apply Kd.R_alloc | apply Kd.R_drewN | apply Kd.R_drew)); exact HO_7.out)) (by decide) hg); have n3_ := Aside0.mk (Kd.R_after (ok := (fun _ => True)) (by (with_reducible repeat (first | apply Kd.R_alloc | apply Kd.R_drewN | apply Kd.R_drew)); exact Kd.R_mono HO221.out (fun _ hk => ⟨trivial, hk⟩)) hg hat); have n4_ := Aside0.mk (hb); have n5_ := Aside0.mk (ho); clear BK190; clear BK214; clear HO218; clear HO221; clear HB; clear HO_7; have BK190 := n0_; have BK214 := n1_; have HO218 := n2_; have HO221 := n3_; have HB := n4_; have HO224 := n5_; clear n0_ n1_ n2_ n3_ n4_ n5_; clear ho hb hg hat))
                go_roundg k1
                case measure => have := HK1.out; omega
                case rel => exact ⟨(t219), (y222), (wrap64 (x38_1 + 1)), (by first | rfl | (simp; done) | (simp [*]; done)), H', ⟨by have := HK1.out; omega⟩, ⟨by (with_reducible repeat (first | apply Kd.R_alloc | apply Kd.R_drewN | apply Kd.R_drew)); exact Kd.R_mono HO221.out (fun _ hk => hk.2)⟩, ⟨by (with_reducible repeat (first | apply Kd.R_alloc | apply Kd.R_drewN | apply Kd.R_drew)); exact HO224.out⟩, ⟨by (with_reducible repeat (first | refine blk_drewN ?_ _ | refine blk_drew ?_ | refine blk_alloc ?_ _)); exact BK190.out⟩, ⟨by repeat (first | (with_reducible first | exact HB.out | apply below_alloc | apply pw_below_drewN | apply below_drew1 | refine below_set ?_ GE190.out | refine below_set ?_ GE214.out) | exact HB.out)⟩⟩
              · rw [if_neg c35] at H
                exact absurd H (by simp)
            · rw [if_neg c32] at H
              exact absurd H (by simp)
          · rw [if_neg c31] at H
            exact absurd H (by simp)
        · rw [if_neg c30] at H
          have c30b0 : decide (x38_1 < (l0_1.length : Int)) = false := decide_eq_false c30
          clear c30
          by_cases c49 : (wrap64 ((wrap64 (52 + (wrap64 (32 * (l0_1.length : Int))))) + (x7_1.length : Int))) > 65536
          · rw [if_pos c49] at H
            have c49b0 : decide (65536 < (wrap64 ((wrap64 (52 + (wrap64 (32 * (l0_1.length : Int))))) + (x7_1.length : Int)))) = true := decide_eq_true c49
            clear c49
            simp only [Option.some.injEq, Prod.mk.injEq] at H
            obtain ⟨rfl, rfl⟩ := H
            obtain ⟨Ao50, co50, eo50⟩ := Kd.R_slice HO_7.out
            subst eo50
            go_wp2
            go_ret2
            exact ⟨_, by first | rfl | (simp [errW_none, errW_some] <;> rfl) | (simp [*, errW_none, errW_some] <;> rfl), by first | exact Kd.R_nil _ _ _ _ _ | exact Kd.N_nil _ _ _ _ _ | exact Kd.V_nil _ _ _ _ _ | exact Kd.Q_nil _ _ _ _ _ | exact Kd.S_nil _ _ _ _ _, by repeat (first | (with_reducible first | exact HB.out | apply below_alloc | apply pw_below_drewN | apply below_drew1 | refine below_set ?_ GE190.out) | exact HB.out)⟩
          · rw [if_neg c49] at H
            have c49b0 : decide (65536 < (wrap64 ((wrap64 (52 + (wrap64 (32 * (l0_1.length : Int))))) + (x7_1.length : Int)))) = false := decide_eq_false c49
            clear c49
            by_cases c51 : x5_1.length + x7_1.length < 140737488355328
            · rw [if_pos c51] at H
              have LMc51 := Aside0.mk c51
              clear c51
              obtain ⟨y225, hy225⟩ : ∃ y_ : List Int, y_ = (x5_1 ++ x7_1) := ⟨_, rfl⟩
              replace H : (some (y225, 0)) = some (r1, r2) := by first | (rw [hy225]; with_reducible exact H) | (have H2_ := (Option.bind_some _ _).symm.trans H; rw [hy225]; with_reducible exact H2_) | (have H2_ := (Option.bind_some _ _).symm.trans H; with_reducible exact H2_) | with_reducible exact H | (rw [hy225]; exact H) | exact H
              have Ny225 := Aside0.mk hy225
              clear hy225
              simp only [Option.some.injEq, Prod.mk.injEq] at H
              obtain ⟨rfl, rfl⟩ := H
              obtain ⟨Ao52, co52, eo52⟩ := Kd.R_slice HO_7.out
              subst eo52
              go_wp2_with (first | ((with_reducible refine gate_builtin (b := .append) (xs := #[.tmp 74, .tmp 75]) rfl ?_); at_builtin; refine Kd.R_append_rows (Kd.int .u8) (w0 := w) w.heap.size rfl (.tmp 74) (.tmp 75) 28 5 (.int .u8 0) 1 rfl Try.underlying28 info5 rfl (by decide) (by omega) u5 x5_1 x7_1 _ _ _ (fun k_ => some k_ ≠ (.slice Ao52 x7_1.length co52 : Value).ownBlock) (fun _ => False) rfl rfl ?aO ?aR (fun _ _ h => h) (fun _ h => h.elim) ?aF ?aB ?aS ?aL ?_; (case aR => repeat (first | exact (Kd.R_reads' HO_7.out).2.2 | (with_reducible refine Kd.C_alloc ?_ _) | (with_reducible refine Kd.C_drewN ?_ _) | (with_reducible refine Kd.C_drew ?_))); (case aB => exact (by with_reducible repeat (first | exact HB.out | apply below_alloc | apply pw_below_drewN | apply below_drew1 | refine below_set ?_ GE190.out))); (case aF => exact (fun k_ hk => Kd.fresh' (Kd.R_lt (by (with_reducible repeat (first | apply Kd.R_alloc | apply Kd.R_drewN | apply Kd.R_drew)); exact HO_7.out)) k_ hk)); (case aO => exact (by (with_reducible repeat (first | apply Kd.R_alloc | apply Kd.R_drewN | apply Kd.R_drew)); exact HO_5.out)); (case aS => exact (below_size (by with_reducible repeat (first | exact HB.out | apply below_alloc | apply pw_below_drewN | apply below_drew1 | refine below_set ?_ GE190.out)))); (case aL => have := LMc51.out; omega); intro v226 w53 ho hb hg hat; rw [← Ny225.out] at ho; have n0_ := Aside0.mk (Kd.R_after (ok := (fun _ => True)) (by (with_reducible repeat (first | apply Kd.R_alloc | apply Kd.R_drewN | apply Kd.R_drew)); exact Kd.R_mono HO_7.out (fun _ hk => ⟨trivial, hk⟩)) hg hat); have n1_ := Aside0.mk (blk_grown (g := gb190) (o := .cells #[.int .u32 a0_0, .slice A0_1 l0_1.length c0_1] 26 (0, 0)) (by (with_reducible repeat (first | refine blk_drewN ?_ _ | refine blk_drew ?_ | refine blk_alloc ?_ _)); exact BK190.out) hg (Kd.R_ne HO_5.out BK190.out (by decide))); have n2_ := Aside0.mk (hb); have n3_ := Aside0.mk (ho); clear HO_7; clear BK190; clear HB; clear HO_5; have HO_7 := n0_; have BK190 := n1_; have HB := n2_; have HO227 := n3_; clear n0_ n1_ n2_ n3_; clear ho hb hg hat))
              go_ret2
              exact ⟨_, by first | rfl | (simp [errW_none, errW_some] <;> rfl) | (simp [*, errW_none, errW_some] <;> rfl), by (with_reducible repeat (first | apply Kd.R_alloc | apply Kd.R_drewN | apply Kd.R_drew)); exact Kd.R_mono HO227.out (fun _ hk => trivial), by repeat (first | (with_reducible first | exact HB.out | apply below_alloc | apply pw_below_drewN | apply below_drew1 | refine below_set ?_ GE190.out) | exact HB.out)⟩
            · rw [if_neg c51] at H
              exact absurd H (by simp)
  · rw [if_neg c3] at H
    have c3b0 : (t191 == 0) = false := beq_eq_false_iff_ne.mpr c3
    have c3b1 : (t191 != 0) = true := bne_iff_ne.mpr c3
    simp only [Option.some.injEq, Prod.mk.injEq] at H
    obtain ⟨rfl, rfl⟩ := H
    go_enter Try.func11, Try.ntmps11
    go_wp2_with (first | ((with_reducible refine gate_dst (N := 1) rfl ?_); refine box_event ?hg (N := 1) ?hd (cs := #[.int .u32 a0_0, .slice A0_1 l0_1.length c0_1]) (t := 26) ?hr ?_; (case hd => rfl); (case hg => rfl); (case hr => first | (go_simp; done) | (go_simp; simp only [IntKind.wrap_u32]; done) | (go_simp; rfl)); intro gb190 hg w54 hbox hb; have n0_ := Aside0.mk (below_step (by with_reducible repeat (first | exact HB.out | apply below_alloc | apply pw_below_drewN | apply below_drew1)) hb); have n1_ := Aside0.mk (hbox); have n2_ := Aside0.mk ((by rw [hg]; exact (below_size (by with_reducible repeat (first | exact HB.out | apply below_alloc | apply pw_below_drewN | apply below_drew1))) : w.heap.size ≤ gb190)); have n3_ := Aside0.mk ((by rw [hg]; exact (below_size (by with_reducible repeat (first | exact HB.out | apply below_alloc | apply pw_below_drewN | apply below_drew1))) : w.heap.size ≤ gb190)); clear HB; have HB := n0_; have BK190 := n1_; have GW190 := n2_; have GE190 := n3_; clear n0_ n1_ n2_ n3_; clear hb hbox hg; have hcz55_0 : w54.cell? ⟨gb190, 0, none⟩ = some (.int .u32 a0_0) := (blk_cell BK190.out 0).trans rfl; have hcz55_1 : w54.cell? ⟨gb190, 1, none⟩ = some (.slice A0_1 l0_1.length c0_1) := (blk_cell BK190.out 1).trans rfl; have hfz55_0 := blk_frozen BK190.out 0; have hfz55_1 := blk_frozen BK190.out 1) | ((with_reducible refine gate_callee (f := 12) rfl ?_); refine goesL_ (some 11) rfl rfl Try.func12 (by kernel_rfl) rfl #[.agg #[.int .u32 a0_0, .slice A0_1 l0_1.length c0_1]] rfl (by (try simp only [List.map_toArray, List.map_cons, List.map_nil]); first | done | rfl | (simp only [List.length_drop, List.length_take]; rfl)) ?_; (with_reducible refine (image_Good.calls k a0_0 _ _ l0_1 t191 _ ?side1 ?side2 A2.out).mono ?_); (case side1 => repeat (first | exact (Kd.C_below HR0_1.out HB.out) | (with_reducible refine Kd.C_alloc ?_ _) | (with_reducible refine Kd.C_drewN ?_ _) | (with_reducible refine Kd.C_drew ?_))); (case side2 => exact HC0_1.out); rintro e w56 ⟨rfl, hb⟩; refine ⟨_, rfl, ?_⟩; have n0_ := Aside0.mk (blk_below (g := gb190) (o := .cells #[.int .u32 a0_0, .slice A0_1 l0_1.length c0_1] 26 (0, 0)) (by (with_reducible repeat (first | refine blk_drewN ?_ _ | refine blk_drew ?_ | refine blk_alloc ?_ _)); exact BK190.out) hb); have n1_ := Aside0.mk (below_step (by with_reducible repeat (first | exact HB.out | apply below_alloc | apply pw_below_drewN | apply below_drew1 | refine below_set ?_ GE190.out)) hb); clear BK190; clear HB; have BK190 := n0_; have HB := n1_; clear n0_ n1_; (try clear hb); (try clear hb2); (try clear hk); (try clear hi)))
    go_ret2
    exact ⟨_, by first | rfl | (simp [errW_none, errW_some] <;> rfl) | (simp [*, errW_none, errW_some] <;> rfl), by first | exact Kd.R_nil _ _ _ _ _ | exact Kd.N_nil _ _ _ _ _ | exact Kd.V_nil _ _ _ _ _ | exact Kd.Q_nil _ _ _ _ _ | exact Kd.S_nil _ _ _ _ _, by repeat (first | (with_reducible first | exact HB.out | apply below_alloc | apply pw_below_drewN | apply below_drew1 | refine below_set ?_ GE190.out) | exact HB.out)⟩
/-! ### tincturelaw8_img: function 16 -/
def tincturelaw8_img.l0 : Nat → Int → Int → List (S30) → Int → List (S65) → Option (Int × (List (S65)))
  | 0, _, _, _, _, _ => none
  | k + 1, x4, x229000, x229001, x231000, x231001 => if x4 < (x229001.length : Int) then (if 0 ≤ x4 then (if x231001.length < 3518437208883 then (tincturelaw8_img.l0 k (wrap64 (x4 + 1)) x229000 x229001 x231000 (x231001 ++ [(⟨(rd_T30 x229001 x4).f0, (rd_T30 x229001 x4).f1, (rd_T30 x229001 x4).f2, (rd_T30 x229001 x4).f3⟩ : S65)])) else (none)) else (none)) else (some (x231000, x231001))
def tincturelaw8_img.f (k : Nat) (a0_0 : Int) (l0_1 : List (S30)) : Option (Int × (List (S65))) := tincturelaw8_img.l0 k 0 a0_0 l0_1 a0_0 ([] : List (S65))
theorem tincturelaw8_img.mono_l : ∀ k, (∀ y0 y1 y2 y3 y4, LeO (tincturelaw8_img.l0 k y0 y1 y2 y3 y4) (tincturelaw8_img.l0 (k + 1) y0 y1 y2 y3 y4))
  | 0 => fun _ _ _ _ _ r h => by simp [tincturelaw8_img.l0] at h
  | k + 1 => by
    have ih0 := tincturelaw8_img.mono_l k
    · intro y0 y1 y2 y3 y4
      unfold tincturelaw8_img.l0
      repeat' first
      | (with_reducible exact ih0 _ _ _ _ _)
      | (with_reducible exact LeO.refl _)
      | (with_reducible exact LeO.none _)
      | (with_reducible refine LeO.ite ?_ ?_)
      | (with_reducible refine LeO.bind ?_ (fun _ => ?_))
      | exact ih0 _ _ _ _ _
      | exact LeO.none _
      | refine LeO.ite ?_ ?_
      | refine LeO.bind ?_ (fun _ => ?_)
theorem tincturelaw8_img.mono : ∀ a0 a1 k, LeO (tincturelaw8_img.f k a0 a1) (tincturelaw8_img.f (k + 1) a0 a1) := by
  intro a0 a1 k
  have ih0 := tincturelaw8_img.mono_l k
  unfold tincturelaw8_img.f
  repeat' first
      | (with_reducible exact ih0 _ _ _ _ _)
      | (with_reducible exact LeO.refl _)
      | (with_reducible exact LeO.none _)
      | (with_reducible refine LeO.ite ?_ ?_)
      | (with_reducible refine LeO.bind ?_ (fun _ => ?_))
      | exact ih0 _ _ _ _ _
      | exact LeO.none _
      | refine LeO.ite ?_ ?_
      | refine LeO.bind ?_ (fun _ => ?_)
set_option maxHeartbeats 8000000 in
set_option maxRecDepth 100000 in
theorem tincturelaw8_img.calls (k : Nat) (a0_0 : Int) (P0_1_ : Nat → Prop) (A0_1 : Option Addr) (c0_1 : Nat) (l0_1 : List (S30)) (r1 : Int) (r2 : List (S65)) (w : World) (hs0_1 : Kd.V k30 30 w w.heap.size (fun k_ => P0_1_ k_) (.slice A0_1 l0_1.length c0_1) l0_1) (h : tincturelaw8_img.f k a0_0 l0_1 = some (r1, r2)) :
    Calls Try.prog 16 #[.agg #[.int .u32 a0_0, .slice A0_1 l0_1.length c0_1]] w fun e w' => ∃ v1_ : Value, e = .returned (.agg #[.int .u32 r1, v1_]) ∧ Kd.N k65 65 w' w.heap.size (fun k_ => (P0_1_ k_ ∨ w.heap.size ≤ k_)) v1_ r2 ∧ Below w.heap.size w w' := by
  have hu26 := Try.underlying26
  have hu40 := Try.underlying40
  have hu30 := Try.underlying30
  have hu65 := Try.underlying65
  have HO0_1 := Aside0.mk (show Kd.V k30 30 w w.heap.size (fun k_ => (P0_1_ k_ ∨ w.heap.size ≤ k_)) (.slice A0_1 l0_1.length c0_1) l0_1 from Kd.V_mono hs0_1 (fun k_ hk => .inl hk))
  have HB := Aside0.mk (Below.refl w.heap.size w)
  have H : (tincturelaw8_img.l0 k 0 a0_0 l0_1 a0_0 ([] : List (S65))) = some (r1, r2) := h
  clear h
  have H' := Aside0.mk H
  clear H
  go_enter Try.func16, Try.ntmps16
  go_wp2_with (first | ((with_reducible refine gate_dst (N := 1) rfl ?_); refine box_event ?hg (N := 1) ?hd (cs := #[.int .u32 a0_0, .slice A0_1 l0_1.length c0_1]) (t := 26) ?hr ?_; (case hd => rfl); (case hg => rfl); (case hr => first | (go_simp; done) | (go_simp; rfl)); intro gb228 hg w2 hbox hb; have n0_ := Aside0.mk (Kd.V_below (Kd.V_elderB (by (with_reducible repeat (first | apply Kd.V_alloc | apply Kd.V_drewN | apply Kd.V_drew)); exact HO0_1.out) gb228 (Nat.le_of_eq hg.symm)) hb); have n1_ := Aside0.mk (below_step (by with_reducible repeat (first | exact HB.out | apply below_alloc | apply pw_below_drewN | apply below_drew1)) hb); have n2_ := Aside0.mk (hbox); have n3_ := Aside0.mk ((by rw [hg]; exact (below_size (by with_reducible repeat (first | exact HB.out | apply below_alloc | apply pw_below_drewN | apply below_drew1))) : w.heap.size ≤ gb228)); have n4_ := Aside0.mk ((by rw [hg]; exact (below_size (by with_reducible repeat (first | exact HB.out | apply below_alloc | apply pw_below_drewN | apply below_drew1))) : w.heap.size ≤ gb228)); clear HO0_1; clear HB; have HO0_1 := n0_; have HB := n1_; have BK228 := n2_; have GW228 := n3_; have GE228 := n4_; clear n0_ n1_ n2_ n3_ n4_; clear hb hbox hg) | ((with_reducible refine gate_dst (N := 2) rfl ?_); refine box_event ?hg (N := 2) ?hd (cs := #[.int .u32 0, .slice none 0 0]) (t := 40) ?hr ?_; (case hd => rfl); (case hg => rfl); (case hr => first | (go_simp; done) | (go_simp; rfl)); intro gb229 hg w3 hbox hb; have n0_ := Aside0.mk (Kd.V_below (Kd.V_elderB (by (with_reducible repeat (first | apply Kd.V_alloc | apply Kd.V_drewN | apply Kd.V_drew)); exact HO0_1.out) gb229 (Nat.le_of_eq hg.symm)) hb); have n1_ := Aside0.mk (blk_below (g := gb228) (o := .cells #[.int .u32 a0_0, .slice A0_1 l0_1.length c0_1] 26 (0, 0)) (by (with_reducible repeat (first | refine blk_drewN ?_ _ | refine blk_drew ?_ | refine blk_alloc ?_ _)); exact BK228.out) hb); have n2_ := Aside0.mk (below_step (by with_reducible repeat (first | exact HB.out | apply below_alloc | apply pw_below_drewN | apply below_drew1 | refine below_set ?_ GE228.out)) hb); have n3_ := Aside0.mk (hbox); have n4_ := Aside0.mk ((by rw [hg]; exact (below_size (by with_reducible repeat (first | exact HB.out | apply below_alloc | apply pw_below_drewN | apply below_drew1 | refine below_set ?_ GE228.out))) : w.heap.size ≤ gb229)); have n5_ := Aside0.mk ((by rw [hg]; exact (below_size (by with_reducible repeat (first | exact HB.out | apply below_alloc | apply pw_below_drewN | apply below_drew1 | refine below_set ?_ GE228.out))) : w.heap.size ≤ gb229)); have n6_ := Aside0.mk ((by rw [hg]; exact Nat.ne_of_lt (blk_lt (g := gb228) (o := .cells #[.int .u32 a0_0, .slice A0_1 l0_1.length c0_1] 26 (0, 0)) (by (with_reducible repeat (first | refine blk_drewN ?_ _ | refine blk_drew ?_ | refine blk_alloc ?_ _)); exact BK228.out)) : gb228 ≠ gb229)); have n7_ := Aside0.mk ((by rw [hg]; exact Nat.ne_of_gt (blk_lt (g := gb228) (o := .cells #[.int .u32 a0_0, .slice A0_1 l0_1.length c0_1] 26 (0, 0)) (by (with_reducible repeat (first | refine blk_drewN ?_ _ | refine blk_drew ?_ | refine blk_alloc ?_ _)); exact BK228.out)) : gb229 ≠ gb228)); clear HO0_1; clear BK228; clear HB; have HO0_1 := n0_; have BK228 := n1_; have HB := n2_; have BK229 := n3_; have GW229 := n4_; have GE229 := n5_; have NB228_229 := n6_; have NB229_228 := n7_; clear n0_ n1_ n2_ n3_ n4_ n5_ n6_ n7_; clear hb hbox hg; have hnb4 := NB228_229.out; have hnc4 := NB229_228.out; have hcz5_0 : w3.cell? ⟨gb228, 0, none⟩ = some (.int .u32 a0_0) := (blk_cell BK228.out 0).trans rfl; have hcz5_1 : w3.cell? ⟨gb228, 1, none⟩ = some (.slice A0_1 l0_1.length c0_1) := (blk_cell BK228.out 1).trans rfl; have hfz5_0 := blk_frozen BK228.out 0; have hfz5_1 := blk_frozen BK228.out 1) | ((with_reducible refine gate_dst (N := 3) rfl ?_); refine box_event ?hg (N := 3) ?hd (cs := #[.int .u32 0, .slice none 0 0]) (t := 40) ?hr ?_; (case hd => rfl); (case hg => rfl); (case hr => first | (go_simp; done) | (go_simp; rfl)); intro gb230 hg w6 hbox hb; have n0_ := Aside0.mk (Kd.V_below (Kd.V_elderB (by (with_reducible repeat (first | apply Kd.V_alloc | apply Kd.V_drewN | apply Kd.V_drew)); exact HO0_1.out) gb230 (Nat.le_of_eq hg.symm)) hb); have n1_ := Aside0.mk (blk_below (g := gb228) (o := .cells #[.int .u32 a0_0, .slice A0_1 l0_1.length c0_1] 26 (0, 0)) (by (with_reducible repeat (first | refine blk_drewN ?_ _ | refine blk_drew ?_ | refine blk_alloc ?_ _)); exact BK228.out) hb); have n2_ := Aside0.mk (blk_below (g := gb229) (o := .cells #[.int .u32 0, .slice none 0 0] 40 (0, 0)) (by (with_reducible repeat (first | refine blk_drewN ?_ _ | refine blk_drew ?_ | refine blk_alloc ?_ _)); exact BK229.out) hb); have n3_ := Aside0.mk (below_step (by with_reducible repeat (first | exact HB.out | apply below_alloc | apply pw_below_drewN | apply below_drew1 | refine below_set ?_ GE228.out | refine below_set ?_ GE229.out)) hb); have n4_ := Aside0.mk (hbox); have n5_ := Aside0.mk ((by rw [hg]; exact (below_size (by with_reducible repeat (first | exact HB.out | apply below_alloc | apply pw_below_drewN | apply below_drew1 | refine below_set ?_ GE228.out | refine below_set ?_ GE229.out))) : w.heap.size ≤ gb230)); have n6_ := Aside0.mk ((by rw [hg]; exact (below_size (by with_reducible repeat (first | exact HB.out | apply below_alloc | apply pw_below_drewN | apply below_drew1 | refine below_set ?_ GE228.out | refine below_set ?_ GE229.out))) : w.heap.size ≤ gb230)); have n7_ := Aside0.mk ((by rw [hg]; exact Nat.ne_of_lt (blk_lt (g := gb228) (o := .cells #[.int .u32 a0_0, .slice A0_1 l0_1.length c0_1] 26 (0, 0)) (by (with_reducible repeat (first | refine blk_drewN ?_ _ | refine blk_drew ?_ | refine blk_alloc ?_ _)); exact BK228.out)) : gb228 ≠ gb230)); have n8_ := Aside0.mk ((by rw [hg]; exact Nat.ne_of_gt (blk_lt (g := gb228) (o := .cells #[.int .u32 a0_0, .slice A0_1 l0_1.length c0_1] 26 (0, 0)) (by (with_reducible repeat (first | refine blk_drewN ?_ _ | refine blk_drew ?_ | refine blk_alloc ?_ _)); exact BK228.out)) : gb230 ≠ gb228)); have n9_ := Aside0.mk ((by rw [hg]; exact Nat.ne_of_lt (blk_lt (g := gb229) (o := .cells #[.int .u32 0, .slice none 0 0] 40 (0, 0)) (by (with_reducible repeat (first | refine blk_drewN ?_ _ | refine blk_drew ?_ | refine blk_alloc ?_ _)); exact BK229.out)) : gb229 ≠ gb230)); have n10_ := Aside0.mk ((by rw [hg]; exact Nat.ne_of_gt (blk_lt (g := gb229) (o := .cells #[.int .u32 0, .slice none 0 0] 40 (0, 0)) (by (with_reducible repeat (first | refine blk_drewN ?_ _ | refine blk_drew ?_ | refine blk_alloc ?_ _)); exact BK229.out)) : gb230 ≠ gb229)); clear HO0_1; clear BK228; clear BK229; clear HB; have HO0_1 := n0_; have BK228 := n1_; have BK229 := n2_; have HB := n3_; have BK230 := n4_; have GW230 := n5_; have GE230 := n6_; have NB228_230 := n7_; have NB230_228 := n8_; have NB229_230 := n9_; have NB230_229 := n10_; clear n0_ n1_ n2_ n3_ n4_ n5_ n6_ n7_ n8_ n9_ n10_; clear hb hbox hg; have hnb7 := NB230_228.out; have hnc7 := NB228_230.out; have hnb8 := NB230_229.out; have hnc8 := NB229_230.out; have hcz9_0 : w6.cell? ⟨gb230, 0, none⟩ = some (.int .u32 0) := (blk_cell BK230.out 0).trans rfl; have hcz9_1 : w6.cell? ⟨gb230, 1, none⟩ = some (.slice none 0 0) := (blk_cell BK230.out 1).trans rfl; have hfz9_0 := blk_frozen BK230.out 0; have hfz9_1 := blk_frozen BK230.out 1))
  go_loopg [4] k (fun kq v4 w' => ∃ (x4_1 : Int) (x231001_1 : List (S65)) (u231001 : Value), v4 = .int .i64 x4_1 ∧ Aside0 (tincturelaw8_img.l0 kq x4_1 a0_0 l0_1 a0_0 x231001_1 = some (r1, r2)) ∧ Aside0 (kq ≤ k) ∧ Aside0 (Kd.V k30 30 w' w.heap.size (fun k_ => (P0_1_ k_ ∨ w.heap.size ≤ k_) ∧ some k_ ≠ (u231001 : Value).ownBlock ∧ k_ ≠ gb228 ∧ k_ ≠ gb229 ∧ k_ ≠ gb230) (.slice A0_1 l0_1.length c0_1) l0_1) ∧ Aside0 (Kd.N k65 65 w' w.heap.size (fun k_ => (P0_1_ k_ ∨ w.heap.size ≤ k_) ∧ k_ ≠ gb228 ∧ k_ ≠ gb229 ∧ k_ ≠ gb230) u231001 x231001_1) ∧ Aside0 (w'.heap[gb228]? = some (.cells #[.int .u32 a0_0, (.slice A0_1 l0_1.length c0_1)] 26 (0, 0))) ∧ Aside0 (w'.heap[gb229]? = some (.cells #[.int .u32 0, (.slice none 0 0)] 40 (0, 0))) ∧ Aside0 (w'.heap[gb230]? = some (.cells #[.int .u32 a0_0, u231001] 40 (0, 0))) ∧ Aside0 (Below w.heap.size w w'))
  case atStart => exact ⟨(0), (([] : List (S65))), (.slice none 0 0), (by first | rfl | (simp; done) | (simp [*]; done)), H', ⟨Nat.le_refl _⟩, ⟨by (with_reducible repeat (first | apply Kd.V_alloc | apply Kd.V_drewN | apply Kd.V_drew)); exact Kd.V_mono (Kd.V_far (p := ⟨gb230, 1, none⟩) (Kd.V_far (p := ⟨gb230, 0, none⟩) (Kd.V_mono HO0_1.out (fun k_ hk => (⟨hk, hk.2⟩ : _ ∧ k_ ≠ gb230))) (fun _ hk => hk.2) (.int .u32 a0_0)) (fun _ hk => hk.2) (.slice none 0 0)) (fun _ hk => ⟨hk.1.1.1.1, ⟨(by simp [Value.ownBlock]), ⟨hk.1.1.1.2, ⟨hk.1.1.2, hk.1.2⟩⟩⟩⟩)⟩, ⟨by first | exact Kd.S_nil _ _ _ _ _ | exact Kd.N_nil _ _ _ _ _ | exact Kd.V_nil _ _ _ _ _ | exact Kd.Q_nil _ _ _ _ _ | exact Kd.R_nil _ _ _ _ _⟩, ⟨by (with_reducible repeat (first | refine blk_drewN ?_ _ | refine blk_drew ?_ | refine blk_alloc ?_ _)); refine blk_far ?_ NB228_230.out _; (with_reducible repeat (first | refine blk_drewN ?_ _ | refine blk_drew ?_ | refine blk_alloc ?_ _)); refine blk_far ?_ NB228_230.out _; (with_reducible repeat (first | refine blk_drewN ?_ _ | refine blk_drew ?_ | refine blk_alloc ?_ _)); exact BK228.out⟩, ⟨by (with_reducible repeat (first | refine blk_drewN ?_ _ | refine blk_drew ?_ | refine blk_alloc ?_ _)); refine blk_far ?_ NB229_230.out _; (with_reducible repeat (first | refine blk_drewN ?_ _ | refine blk_drew ?_ | refine blk_alloc ?_ _)); refine blk_far ?_ NB229_230.out _; (with_reducible repeat (first | refine blk_drewN ?_ _ | refine blk_drew ?_ | refine blk_alloc ?_ _)); exact BK229.out⟩, ⟨by (with_reducible repeat (first | refine blk_drewN ?_ _ | refine blk_drew ?_ | refine blk_alloc ?_ _)); refine blk_put (cs := #[.int .u32 a0_0, .slice none 0 0]) ?_ 1 _ rfl; (with_reducible repeat (first | refine blk_drewN ?_ _ | refine blk_drew ?_ | refine blk_alloc ?_ _)); refine blk_put (cs := #[.int .u32 0, .slice none 0 0]) ?_ 0 _ rfl; (with_reducible repeat (first | refine blk_drewN ?_ _ | refine blk_drew ?_ | refine blk_alloc ?_ _)); exact BK230.out⟩, ⟨by repeat (first | (with_reducible first | exact HB.out | apply below_alloc | apply pw_below_drewN | apply below_drew1 | refine below_set ?_ GE228.out | refine below_set ?_ GE229.out | refine below_set ?_ GE230.out) | exact HB.out)⟩⟩
  case round =>
    clear H'
    try clear c1
    try clear p2
    try clear c4
    try clear c7
    try clear c8
    try clear hcz5_0
    try clear hcz5_1
    try clear hcz9_0
    try clear hcz9_1
    try clear hfz5_0
    try clear hfz5_1
    try clear hfz9_0
    try clear hfz9_1
    obtain ⟨x4_1, x231001_1, u231001, rfl, HA, HK1, HO_229001, HO_231001, BK228, BK229, BK230, HB⟩ := hrel
    cases gk with
    | zero => exact absurd HA.out (by simp [tincturelaw8_img.l0])
    | succ k1 =>
      have H := HA.out
      clear HA
      simp only [tincturelaw8_img.l0] at H
      by_cases c10 : x4_1 < (l0_1.length : Int)
      · rw [if_pos c10] at H
        have c10b0 : decide (x4_1 < (l0_1.length : Int)) = true := decide_eq_true c10
        clear c10
        by_cases c11 : 0 ≤ x4_1
        · rw [if_pos c11] at H
          have c11b0 : decide (0 ≤ x4_1) = true := decide_eq_true c11
          clear c11
          by_cases c12 : x231001_1.length < 3518437208883
          · rw [if_pos c12] at H
            have LMc12 := Aside0.mk c12
            clear c12
            obtain ⟨y233, hy233⟩ : ∃ y_ : List (S65), y_ = (x231001_1 ++ [(⟨(rd_T30 l0_1 x4_1).f0, (rd_T30 l0_1 x4_1).f1, (rd_T30 l0_1 x4_1).f2, (rd_T30 l0_1 x4_1).f3⟩ : S65)]) := ⟨_, rfl⟩
            replace H : (tincturelaw8_img.l0 k1 (wrap64 (x4_1 + 1)) a0_0 l0_1 a0_0 y233) = some (r1, r2) := by first | (rw [hy233]; with_reducible exact H) | (have H2_ := (Option.bind_some _ _).symm.trans H; rw [hy233]; with_reducible exact H2_) | (have H2_ := (Option.bind_some _ _).symm.trans H; with_reducible exact H2_) | with_reducible exact H | (rw [hy233]; exact H) | exact H
            have Ny233 := Aside0.mk hy233
            clear hy233
            have H' := Aside0.mk H
            clear H
            have hnb13 := NB228_229.out
            have hnc13 := NB229_228.out
            have hnb14 := NB228_230.out
            have hnc14 := NB230_228.out
            have hcz15_0 : wr.cell? ⟨gb228, 0, none⟩ = some (.int .u32 a0_0) := (blk_cell BK228.out 0).trans rfl
            have hcz15_1 : wr.cell? ⟨gb228, 1, none⟩ = some (.slice A0_1 l0_1.length c0_1) := (blk_cell BK228.out 1).trans rfl
            have hfz15_0 := blk_frozen BK228.out 0
            have hfz15_1 := blk_frozen BK228.out 1
            have p231 : 0 ≤ (x4_1 : Int) := of_decide_eq_true (by first | (with_reducible assumption) | assumption)
            have q231 : x4_1 < (l0_1.length : Int) := of_decide_eq_true (by first | (with_reducible assumption) | assumption)
            obtain ⟨ad231, A231_3, c231_3, e231, hx231_0, hx231_1, hx231_2, hx231_3, hl231_3, hi231_3⟩ := at_T30 (Kd.V_reads' HO_229001.out).2.2 x4_1 p231 q231
            cases e231
            obtain ⟨ce231, hce231, hMe231, hcc231⟩ := Kd.V_get HO_229001.out z30 x4_1 p231 (by first | exact q231 | exact of_decide_eq_true (by first | (with_reducible assumption) | assumption) | (have e_ := (Kd.V_reads' HO_229001.out).1; omega))
            obtain ⟨ua231_3, uc231_3, rfl, ul231_3, ge231_3⟩ := k30_openF hMe231
            have hv231_3 := hcc231 3 _ rfl
            rw [add_field _ _ 3 (by omega)] at hv231_3
            replace hv231_3 := Option.some.inj (hv231_3.symm.trans hx231_3)
            injection hv231_3 with hva_ hvn_ hvc_
            rw [hva_] at ge231_3
            rw [hvc_] at ul231_3
            have HL231_3 := Aside0.mk (show Kd.V (Kd.int .u8) 5 _ w.heap.size _ _ ((rd_T30 l0_1 x4_1).f3) from Kd.V_mk ul231_3 ge231_3)
            clear hva_ hvn_ hvc_ ge231_3 ul231_3 hcc231 hce231
            have HR231_3 := Aside0.mk hi231_3
            have HC231_3 := Aside0.mk hl231_3
            clear hi231_3 hl231_3
            replace p231 := eq_true p231
            replace q231 := eq_true q231
            go_wp2_with (first | ((with_reducible refine gate_dst (N := 5) rfl ?_); refine box_event ?hg (N := 5) ?hd (cs := #[.int .u32 0, .int .u32 0, .int .i64 0, .slice none 0 0]) (t := 30) ?hr ?_; (case hd => rfl); (case hg => rfl); (case hr => first | (go_simp; done) | (go_simp; rfl)); intro gb232 hg w16 hbox hb; have n0_ := Aside0.mk (Kd.V_below (Kd.V_elderB (by (with_reducible repeat (first | apply Kd.V_alloc | apply Kd.V_drewN | apply Kd.V_drew)); exact HO_229001.out) gb232 (Nat.le_of_eq hg.symm)) hb); have n1_ := Aside0.mk (Kd.N_below (Kd.N_elderB (by (with_reducible repeat (first | apply Kd.N_alloc | apply Kd.N_drewN | apply Kd.N_drew)); exact HO_231001.out) gb232 (Nat.le_of_eq hg.symm)) hb); have n2_ := Aside0.mk (Kd.V_below (Kd.V_elderB (by (with_reducible repeat (first | apply Kd.V_alloc | apply Kd.V_drewN | apply Kd.V_drew)); exact HL231_3.out) gb232 (Nat.le_of_eq hg.symm)) hb); have n3_ := Aside0.mk (blk_below (g := gb228) (o := .cells #[.int .u32 a0_0, .slice (some ad231) l0_1.length c0_1] 26 (0, 0)) (by (with_reducible repeat (first | refine blk_drewN ?_ _ | refine blk_drew ?_ | refine blk_alloc ?_ _)); exact BK228.out) hb); have n4_ := Aside0.mk (blk_below (g := gb229) (o := .cells #[.int .u32 0, .slice none 0 0] 40 (0, 0)) (by (with_reducible repeat (first | refine blk_drewN ?_ _ | refine blk_drew ?_ | refine blk_alloc ?_ _)); exact BK229.out) hb); have n5_ := Aside0.mk (blk_below (g := gb230) (o := .cells #[.int .u32 a0_0, u231001] 40 (0, 0)) (by (with_reducible repeat (first | refine blk_drewN ?_ _ | refine blk_drew ?_ | refine blk_alloc ?_ _)); exact BK230.out) hb); have n6_ := Aside0.mk (Kd.C_below (by repeat (first | (with_reducible exact HR231_3.out) | (with_reducible refine Kd.C_alloc ?_ _) | (with_reducible refine Kd.C_drewN ?_ _) | (with_reducible refine Kd.C_drew ?_) | exact HR231_3.out)) hb); have n7_ := Aside0.mk (below_step (by with_reducible repeat (first | exact HB.out | apply below_alloc | apply pw_below_drewN | apply below_drew1 | refine below_set ?_ GE228.out | refine below_set ?_ GE229.out | refine below_set ?_ GE230.out)) hb); have n8_ := Aside0.mk (hbox); have n9_ := Aside0.mk ((by rw [hg]; exact (below_size (by with_reducible repeat (first | exact HB.out | apply below_alloc | apply pw_below_drewN | apply below_drew1 | refine below_set ?_ GE228.out | refine below_set ?_ GE229.out | refine below_set ?_ GE230.out))) : w.heap.size ≤ gb232)); have n10_ := Aside0.mk ((by rw [hg]; exact (below_size (by with_reducible repeat (first | exact HB.out | apply below_alloc | apply pw_below_drewN | apply below_drew1 | refine below_set ?_ GE228.out | refine below_set ?_ GE229.out | refine below_set ?_ GE230.out))) : w.heap.size ≤ gb232)); have n11_ := Aside0.mk ((by rw [hg]; exact Nat.ne_of_lt (blk_lt (g := gb228) (o := .cells #[.int .u32 a0_0, .slice (some ad231) l0_1.length c0_1] 26 (0, 0)) (by (with_reducible repeat (first | refine blk_drewN ?_ _ | refine blk_drew ?_ | refine blk_alloc ?_ _)); exact BK228.out)) : gb228 ≠ gb232)); have n12_ := Aside0.mk ((by rw [hg]; exact Nat.ne_of_gt (blk_lt (g := gb228) (o := .cells #[.int .u32 a0_0, .slice (some ad231) l0_1.length c0_1] 26 (0, 0)) (by (with_reducible repeat (first | refine blk_drewN ?_ _ | refine blk_drew ?_ | refine blk_alloc ?_ _)); exact BK228.out)) : gb232 ≠ gb228)); have n13_ := Aside0.mk ((by rw [hg]; exact Nat.ne_of_lt (blk_lt (g := gb229) (o := .cells #[.int .u32 0, .slice none 0 0] 40 (0, 0)) (by (with_reducible repeat (first | refine blk_drewN ?_ _ | refine blk_drew ?_ | refine blk_alloc ?_ _)); exact BK229.out)) : gb229 ≠ gb232)); have n14_ := Aside0.mk ((by rw [hg]; exact Nat.ne_of_gt (blk_lt (g := gb229) (o := .cells #[.int .u32 0, .slice none 0 0] 40 (0, 0)) (by (with_reducible repeat (first | refine blk_drewN ?_ _ | refine blk_drew ?_ | refine blk_alloc ?_ _)); exact BK229.out)) : gb232 ≠ gb229)); have n15_ := Aside0.mk ((by rw [hg]; exact Nat.ne_of_lt (blk_lt (g := gb230) (o := .cells #[.int .u32 a0_0, u231001] 40 (0, 0)) (by (with_reducible repeat (first | refine blk_drewN ?_ _ | refine blk_drew ?_ | refine blk_alloc ?_ _)); exact BK230.out)) : gb230 ≠ gb232)); have n16_ := Aside0.mk ((by rw [hg]; exact Nat.ne_of_gt (blk_lt (g := gb230) (o := .cells #[.int .u32 a0_0, u231001] 40 (0, 0)) (by (with_reducible repeat (first | refine blk_drewN ?_ _ | refine blk_drew ?_ | refine blk_alloc ?_ _)); exact BK230.out)) : gb232 ≠ gb230)); clear HO_229001; clear HO_231001; clear HL231_3; clear BK228; clear BK229; clear BK230; clear HR231_3; clear HB; have HO_229001 := n0_; have HO_231001 := n1_; have HL231_3 := n2_; have BK228 := n3_; have BK229 := n4_; have BK230 := n5_; have HR231_3 := n6_; have HB := n7_; have BK232 := n8_; have GW232 := n9_; have GE232 := n10_; have NB228_232 := n11_; have NB232_228 := n12_; have NB229_232 := n13_; have NB232_229 := n14_; have NB230_232 := n15_; have NB232_230 := n16_; clear n0_ n1_ n2_ n3_ n4_ n5_ n6_ n7_ n8_ n9_ n10_ n11_ n12_ n13_ n14_ n15_ n16_; clear hb hbox hg; have hnb17 := NB232_228.out; have hnc17 := NB228_232.out; have hnb18 := NB232_229.out; have hnc18 := NB229_232.out; have hnb19 := NB232_230.out; have hnc19 := NB230_232.out; have hcz20_0 : w16.cell? ⟨gb232, 0, none⟩ = some (.int .u32 0) := (blk_cell BK232.out 0).trans rfl; have hcz20_1 : w16.cell? ⟨gb232, 1, none⟩ = some (.int .u32 0) := (blk_cell BK232.out 1).trans rfl; have hcz20_2 : w16.cell? ⟨gb232, 2, none⟩ = some (.int .i64 0) := (blk_cell BK232.out 2).trans rfl; have hcz20_3 : w16.cell? ⟨gb232, 3, none⟩ = some (.slice none 0 0) := (blk_cell BK232.out 3).trans rfl; have hfz20_0 := blk_frozen BK232.out 0; have hfz20_1 := blk_frozen BK232.out 1; have hfz20_2 := blk_frozen BK232.out 2; have hfz20_3 := blk_frozen BK232.out 3) | ((with_reducible refine gate_store (t := 30) (p := 5) rfl ?_); refine store_event (t := 30) (p := 5) (v := ?vo_w21) (w1 := ((((w16.setCell ⟨gb232, 0, none⟩ (.int .u32 ((rd_T30 l0_1 x4_1).f0))).setCell ⟨gb232, 1, none⟩ (.int .u32 ((rd_T30 l0_1 x4_1).f1))).setCell ⟨gb232, 2, none⟩ (.int .i64 ((rd_T30 l0_1 x4_1).f2))).setCell ⟨gb232, 3, none⟩ (.slice A231_3 ((rd_T30 l0_1 x4_1).f3).length c231_3))) ?hg ?ho ?hn ?hr ?_; (case ho => rfl); (case hg => rfl); (case hn => rfl); (case hr => first | (go_simp; done) | (go_simp; rfl)); intro w21 hw; have n0_ : Aside0 (Kd.V k30 30 w21 w.heap.size (fun k_ => (P0_1_ k_ ∨ w.heap.size ≤ k_) ∧ some k_ ≠ (u231001 : Value).ownBlock ∧ k_ ≠ gb228 ∧ k_ ≠ gb229 ∧ k_ ≠ gb230 ∧ k_ ≠ gb232) (.slice (some ad231) l0_1.length c0_1) l0_1) := ⟨(by rw [hw]; exact (by (with_reducible repeat (first | apply Kd.V_alloc | apply Kd.V_drewN | apply Kd.V_drew)); exact Kd.V_mono (Kd.V_far (p := ⟨gb232, 3, none⟩) (Kd.V_far (p := ⟨gb232, 2, none⟩) (Kd.V_far (p := ⟨gb232, 1, none⟩) (Kd.V_far (p := ⟨gb232, 0, none⟩) (Kd.V_mono HO_229001.out (fun k_ hk => (⟨hk, hk.2⟩ : _ ∧ k_ ≠ gb232))) (fun _ hk => hk.2) (.int .u32 ((rd_T30 l0_1 x4_1).f0))) (fun _ hk => hk.2) (.int .u32 ((rd_T30 l0_1 x4_1).f1))) (fun _ hk => hk.2) (.int .i64 ((rd_T30 l0_1 x4_1).f2))) (fun _ hk => hk.2) (.slice A231_3 ((rd_T30 l0_1 x4_1).f3).length c231_3)) (fun _ hk => ⟨hk.1.1.1, ⟨hk.1.1.2.1, ⟨hk.1.1.2.2.1, ⟨hk.1.1.2.2.2.1, ⟨hk.1.1.2.2.2.2, hk.1.2⟩⟩⟩⟩⟩)))⟩; have n1_ : Aside0 (Kd.N k65 65 w21 w.heap.size (fun k_ => (P0_1_ k_ ∨ w.heap.size ≤ k_) ∧ k_ ≠ gb228 ∧ k_ ≠ gb229 ∧ k_ ≠ gb230 ∧ k_ ≠ gb232) u231001 x231001_1) := ⟨(by rw [hw]; exact (by (with_reducible repeat (first | apply Kd.N_alloc | apply Kd.N_drewN | apply Kd.N_drew)); exact Kd.N_mono (Kd.N_far (p := ⟨gb232, 3, none⟩) (Kd.N_far (p := ⟨gb232, 2, none⟩) (Kd.N_far (p := ⟨gb232, 1, none⟩) (Kd.N_far (p := ⟨gb232, 0, none⟩) (Kd.N_mono HO_231001.out (fun k_ hk => (⟨hk, hk.2⟩ : _ ∧ k_ ≠ gb232))) (fun _ hk => hk.2) (.int .u32 ((rd_T30 l0_1 x4_1).f0))) (fun _ hk => hk.2) (.int .u32 ((rd_T30 l0_1 x4_1).f1))) (fun _ hk => hk.2) (.int .i64 ((rd_T30 l0_1 x4_1).f2))) (fun _ hk => hk.2) (.slice A231_3 ((rd_T30 l0_1 x4_1).f3).length c231_3)) (fun _ hk => ⟨hk.1.1.1, ⟨hk.1.1.2.1, ⟨hk.1.1.2.2.1, ⟨hk.1.1.2.2.2, hk.1.2⟩⟩⟩⟩)))⟩; have n2_ : Aside0 (Kd.V (Kd.int .u8) 5 w21 w.heap.size (fun k_ => (P0_1_ k_ ∨ w.heap.size ≤ k_) ∧ some k_ ≠ (u231001 : Value).ownBlock ∧ k_ ≠ gb228 ∧ k_ ≠ gb229 ∧ k_ ≠ gb230 ∧ k_ ≠ gb232) (.slice A231_3 ((rd_T30 l0_1 x4_1).f3).length c231_3) ((rd_T30 l0_1 x4_1).f3)) := ⟨(by rw [hw]; exact (by (with_reducible repeat (first | apply Kd.V_alloc | apply Kd.V_drewN | apply Kd.V_drew)); exact Kd.V_mono (Kd.V_far (p := ⟨gb232, 3, none⟩) (Kd.V_far (p := ⟨gb232, 2, none⟩) (Kd.V_far (p := ⟨gb232, 1, none⟩) (Kd.V_far (p := ⟨gb232, 0, none⟩) (Kd.V_mono HL231_3.out (fun k_ hk => (⟨hk, hk.2⟩ : _ ∧ k_ ≠ gb232))) (fun _ hk => hk.2) (.int .u32 ((rd_T30 l0_1 x4_1).f0))) (fun _ hk => hk.2) (.int .u32 ((rd_T30 l0_1 x4_1).f1))) (fun _ hk => hk.2) (.int .i64 ((rd_T30 l0_1 x4_1).f2))) (fun _ hk => hk.2) (.slice A231_3 ((rd_T30 l0_1 x4_1).f3).length c231_3)) (fun _ hk => ⟨hk.1.1.1, ⟨hk.1.1.2.1, ⟨hk.1.1.2.2.1, ⟨hk.1.1.2.2.2.1, ⟨hk.1.1.2.2.2.2, hk.1.2⟩⟩⟩⟩⟩)))⟩; have n3_ : Aside0 (w21.heap[gb228]? = some (.cells #[.int .u32 a0_0, .slice (some ad231) l0_1.length c0_1] 26 (0, 0))) := ⟨(by rw [hw]; exact (by (with_reducible repeat (first | refine blk_drewN ?_ _ | refine blk_drew ?_ | refine blk_alloc ?_ _)); refine blk_far ?_ NB228_232.out _; (with_reducible repeat (first | refine blk_drewN ?_ _ | refine blk_drew ?_ | refine blk_alloc ?_ _)); refine blk_far ?_ NB228_232.out _; (with_reducible repeat (first | refine blk_drewN ?_ _ | refine blk_drew ?_ | refine blk_alloc ?_ _)); refine blk_far ?_ NB228_232.out _; (with_reducible repeat (first | refine blk_drewN ?_ _ | refine blk_drew ?_ | refine blk_alloc ?_ _)); refine blk_far ?_ NB228_232.out _; (with_reducible repeat (first | refine blk_drewN ?_ _ | refine blk_drew ?_ | refine blk_alloc ?_ _)); exact BK228.out))⟩; have n4_ : Aside0 (w21.heap[gb229]? = some (.cells #[.int .u32 0, .slice none 0 0] 40 (0, 0))) := ⟨(by rw [hw]; exact (by (with_reducible repeat (first | refine blk_drewN ?_ _ | refine blk_drew ?_ | refine blk_alloc ?_ _)); refine blk_far ?_ NB229_232.out _; (with_reducible repeat (first | refine blk_drewN ?_ _ | refine blk_drew ?_ | refine blk_alloc ?_ _)); refine blk_far ?_ NB229_232.out _; (with_reducible repeat (first | refine blk_drewN ?_ _ | refine blk_drew ?_ | refine blk_alloc ?_ _)); refine blk_far ?_ NB229_232.out _; (with_reducible repeat (first | refine blk_drewN ?_ _ | refine blk_drew ?_ | refine blk_alloc ?_ _)); refine blk_far ?_ NB229_232.out _; (with_reducible repeat (first | refine blk_drewN ?_ _ | refine blk_drew ?_ | refine blk_alloc ?_ _)); exact BK229.out))⟩; have n5_ : Aside0 (w21.heap[gb230]? = some (.cells #[.int .u32 a0_0, u231001] 40 (0, 0))) := ⟨(by rw [hw]; exact (by (with_reducible repeat (first | refine blk_drewN ?_ _ | refine blk_drew ?_ | refine blk_alloc ?_ _)); refine blk_far ?_ NB230_232.out _; (with_reducible repeat (first | refine blk_drewN ?_ _ | refine blk_drew ?_ | refine blk_alloc ?_ _)); refine blk_far ?_ NB230_232.out _; (with_reducible repeat (first | refine blk_drewN ?_ _ | refine blk_drew ?_ | refine blk_alloc ?_ _)); refine blk_far ?_ NB230_232.out _; (with_reducible repeat (first | refine blk_drewN ?_ _ | refine blk_drew ?_ | refine blk_alloc ?_ _)); refine blk_far ?_ NB230_232.out _; (with_reducible repeat (first | refine blk_drewN ?_ _ | refine blk_drew ?_ | refine blk_alloc ?_ _)); exact BK230.out))⟩; have n6_ : Aside0 (w21.heap[gb232]? = some (.cells #[.int .u32 ((rd_T30 l0_1 x4_1).f0), .int .u32 ((rd_T30 l0_1 x4_1).f1), .int .i64 ((rd_T30 l0_1 x4_1).f2), .slice A231_3 ((rd_T30 l0_1 x4_1).f3).length c231_3] 30 (0, 0))) := ⟨(by rw [hw]; exact (by (with_reducible repeat (first | refine blk_drewN ?_ _ | refine blk_drew ?_ | refine blk_alloc ?_ _)); refine blk_put (cs := #[.int .u32 ((rd_T30 l0_1 x4_1).f0), .int .u32 ((rd_T30 l0_1 x4_1).f1), .int .i64 ((rd_T30 l0_1 x4_1).f2), .slice none 0 0]) ?_ 3 _ rfl; (with_reducible repeat (first | refine blk_drewN ?_ _ | refine blk_drew ?_ | refine blk_alloc ?_ _)); refine blk_put (cs := #[.int .u32 ((rd_T30 l0_1 x4_1).f0), .int .u32 ((rd_T30 l0_1 x4_1).f1), .int .i64 0, .slice none 0 0]) ?_ 2 _ rfl; (with_reducible repeat (first | refine blk_drewN ?_ _ | refine blk_drew ?_ | refine blk_alloc ?_ _)); refine blk_put (cs := #[.int .u32 ((rd_T30 l0_1 x4_1).f0), .int .u32 0, .int .i64 0, .slice none 0 0]) ?_ 1 _ rfl; (with_reducible repeat (first | refine blk_drewN ?_ _ | refine blk_drew ?_ | refine blk_alloc ?_ _)); refine blk_put (cs := #[.int .u32 0, .int .u32 0, .int .i64 0, .slice none 0 0]) ?_ 0 _ rfl; (with_reducible repeat (first | refine blk_drewN ?_ _ | refine blk_drew ?_ | refine blk_alloc ?_ _)); exact BK232.out))⟩; have n7_ : Aside0 (Below w.heap.size w w21) := ⟨(by rw [hw]; exact (by with_reducible repeat (first | exact HB.out | apply below_alloc | apply pw_below_drewN | apply below_drew1 | refine below_set ?_ GE228.out | refine below_set ?_ GE229.out | refine below_set ?_ GE230.out | refine below_set ?_ GE232.out)))⟩; clear hw; clear HO_229001; clear HO_231001; clear HL231_3; clear BK228; clear BK229; clear BK230; clear BK232; clear HB; have HO_229001 := n0_; have HO_231001 := n1_; have HL231_3 := n2_; have BK228 := n3_; have BK229 := n4_; have BK230 := n5_; have BK232 := n6_; have HB := n7_; clear n0_ n1_ n2_ n3_ n4_ n5_ n6_ n7_; have hnb22 := NB230_229.out; have hnc22 := NB229_230.out; have hcz23_0 : w21.cell? ⟨gb230, 0, none⟩ = some (.int .u32 a0_0) := (blk_cell BK230.out 0).trans rfl; have hcz23_1 : w21.cell? ⟨gb230, 1, none⟩ = some (u231001) := (blk_cell BK230.out 1).trans rfl; have hfz23_0 := blk_frozen BK230.out 0; have hfz23_1 := blk_frozen BK230.out 1; have hcz24_0 : w21.cell? ⟨gb232, 0, none⟩ = some (.int .u32 ((rd_T30 l0_1 x4_1).f0)) := (blk_cell BK232.out 0).trans rfl; have hcz24_1 : w21.cell? ⟨gb232, 1, none⟩ = some (.int .u32 ((rd_T30 l0_1 x4_1).f1)) := (blk_cell BK232.out 1).trans rfl; have hcz24_2 : w21.cell? ⟨gb232, 2, none⟩ = some (.int .i64 ((rd_T30 l0_1 x4_1).f2)) := (blk_cell BK232.out 2).trans rfl; have hcz24_3 : w21.cell? ⟨gb232, 3, none⟩ = some (.slice A231_3 ((rd_T30 l0_1 x4_1).f3).length c231_3) := (blk_cell BK232.out 3).trans rfl; have hfz24_0 := blk_frozen BK232.out 0; have hfz24_1 := blk_frozen BK232.out 1; have hfz24_2 := blk_frozen BK232.out 2; have hfz24_3 := blk_frozen BK232.out 3) | ((with_reducible refine gate_builtin (b := .append) (xs := #[.tmp 22, .tmp 32]) rfl ?_); at_builtin; refine Kd.N_append k65 (w0 := w) w.heap.size rfl (.tmp 22) (.tmp 32) 38 65 (.agg #[(.int .u32 0), (.int .u32 0), (.int .i64 0), (.slice none 0 0)]) 40 rfl Try.underlying38 info65 rfl (by decide) (by omega) u231001 x231001_1 (⟨(rd_T30 l0_1 x4_1).f0, (rd_T30 l0_1 x4_1).f1, (rd_T30 l0_1 x4_1).f2, (rd_T30 l0_1 x4_1).f3⟩ : S65) [.int .u32 ((rd_T30 l0_1 x4_1).f0), .int .u32 ((rd_T30 l0_1 x4_1).f1), .int .i64 ((rd_T30 l0_1 x4_1).f2), .slice A231_3 ((rd_T30 l0_1 x4_1).f3).length c231_3] (fun k_ => (P0_1_ k_ ∨ w.heap.size ≤ k_) ∧ k_ ≠ gb228 ∧ k_ ≠ gb229 ∧ k_ ≠ gb230 ∧ k_ ≠ gb232) (fun k_ => ((fun k_ => (P0_1_ k_ ∨ w.heap.size ≤ k_) ∧ k_ ≠ gb228 ∧ k_ ≠ gb229 ∧ k_ ≠ gb230 ∧ k_ ≠ gb232)) k_ ∧ some k_ ≠ (u231001 : Value).ownBlock) rfl rfl ?aP (fun _ hk => hk) ?aF ?aO ?aB ?aS ?aL ?_; (case aP => exact (k65_mkF _ _ (⟨(rd_T30 l0_1 x4_1).f0, (rd_T30 l0_1 x4_1).f1, (rd_T30 l0_1 x4_1).f2, (rd_T30 l0_1 x4_1).f3⟩ : S65) (Kd.V_reads' (Kd.V_mono (ok' := (fun k_ => ((fun k_ => (P0_1_ k_ ∨ w.heap.size ≤ k_) ∧ k_ ≠ gb228 ∧ k_ ≠ gb229 ∧ k_ ≠ gb230 ∧ k_ ≠ gb232)) k_ ∧ some k_ ≠ (u231001 : Value).ownBlock)) (HL231_3.out) (fun k_ hk => ⟨⟨hk.1, ⟨hk.2.2.1, ⟨hk.2.2.2.1, ⟨hk.2.2.2.2.1, hk.2.2.2.2.2⟩⟩⟩⟩, hk.2.1⟩))).2.1 (Kd.V_F (Kd.V_mono (ok' := (fun k_ => ((fun k_ => (P0_1_ k_ ∨ w.heap.size ≤ k_) ∧ k_ ≠ gb228 ∧ k_ ≠ gb229 ∧ k_ ≠ gb230 ∧ k_ ≠ gb232)) k_ ∧ some k_ ≠ (u231001 : Value).ownBlock)) (HL231_3.out) (fun k_ hk => ⟨⟨hk.1, ⟨hk.2.2.1, ⟨hk.2.2.2.1, ⟨hk.2.2.2.2.1, hk.2.2.2.2.2⟩⟩⟩⟩, hk.2.1⟩))))); (case aB => exact (by with_reducible repeat (first | exact HB.out | apply below_alloc | apply pw_below_drewN | apply below_drew1 | refine below_set ?_ GE228.out | refine below_set ?_ GE229.out | refine below_set ?_ GE230.out | refine below_set ?_ GE232.out))); (case aF => exact (fun k_ hk => ⟨(.inr (Nat.le_trans (below_size (by with_reducible repeat (first | exact HB.out | apply below_alloc | apply pw_below_drewN | apply below_drew1 | refine below_set ?_ GE228.out | refine below_set ?_ GE229.out | refine below_set ?_ GE230.out | refine below_set ?_ GE232.out))) hk)), Kd.freshB (g := gb228) (o := .cells #[.int .u32 a0_0, .slice (some ad231) l0_1.length c0_1] 26 (0, 0)) (by (with_reducible repeat (first | refine blk_drewN ?_ _ | refine blk_drew ?_ | refine blk_alloc ?_ _)); exact BK228.out) k_ hk, Kd.freshB (g := gb229) (o := .cells #[.int .u32 0, .slice none 0 0] 40 (0, 0)) (by (with_reducible repeat (first | refine blk_drewN ?_ _ | refine blk_drew ?_ | refine blk_alloc ?_ _)); exact BK229.out) k_ hk, Kd.freshB (g := gb230) (o := .cells #[.int .u32 a0_0, u231001] 40 (0, 0)) (by (with_reducible repeat (first | refine blk_drewN ?_ _ | refine blk_drew ?_ | refine blk_alloc ?_ _)); exact BK230.out) k_ hk, Kd.freshB (g := gb232) (o := .cells #[.int .u32 ((rd_T30 l0_1 x4_1).f0), .int .u32 ((rd_T30 l0_1 x4_1).f1), .int .i64 ((rd_T30 l0_1 x4_1).f2), .slice A231_3 ((rd_T30 l0_1 x4_1).f3).length c231_3] 30 (0, 0)) (by (with_reducible repeat (first | refine blk_drewN ?_ _ | refine blk_drew ?_ | refine blk_alloc ?_ _)); exact BK232.out) k_ hk⟩)); (case aO => exact (by (with_reducible repeat (first | apply Kd.N_alloc | apply Kd.N_drewN | apply Kd.N_drew)); exact HO_231001.out)); (case aS => exact (below_size (by with_reducible repeat (first | exact HB.out | apply below_alloc | apply pw_below_drewN | apply below_drew1 | refine below_set ?_ GE228.out | refine below_set ?_ GE229.out | refine below_set ?_ GE230.out | refine below_set ?_ GE232.out)))); (case aL => have := LMc12.out; omega); intro v234 w25 ho hb hg hat; rw [← Ny233.out] at ho; have n0_ := Aside0.mk (Kd.V_afterv (ok := (fun k_ => (P0_1_ k_ ∨ w.heap.size ≤ k_) ∧ k_ ≠ gb228 ∧ k_ ≠ gb229 ∧ k_ ≠ gb230 ∧ k_ ≠ gb232)) (by (with_reducible repeat (first | apply Kd.V_alloc | apply Kd.V_drewN | apply Kd.V_drew)); exact Kd.V_mono HO_229001.out (fun _ hk => ⟨⟨hk.1, ⟨hk.2.2.1, ⟨hk.2.2.2.1, ⟨hk.2.2.2.2.1, hk.2.2.2.2.2⟩⟩⟩⟩, hk.2.1⟩)) hg hat); have n1_ := Aside0.mk (blk_grown (g := gb228) (o := .cells #[.int .u32 a0_0, .slice (some ad231) l0_1.length c0_1] 26 (0, 0)) (by (with_reducible repeat (first | refine blk_drewN ?_ _ | refine blk_drew ?_ | refine blk_alloc ?_ _)); exact BK228.out) hg (Kd.N_ne HO_231001.out BK228.out (by decide))); have n2_ := Aside0.mk (blk_grown (g := gb229) (o := .cells #[.int .u32 0, .slice none 0 0] 40 (0, 0)) (by (with_reducible repeat (first | refine blk_drewN ?_ _ | refine blk_drew ?_ | refine blk_alloc ?_ _)); exact BK229.out) hg (Kd.N_ne HO_231001.out BK229.out (by decide))); have n3_ := Aside0.mk (blk_grown (g := gb230) (o := .cells #[.int .u32 a0_0, u231001] 40 (0, 0)) (by (with_reducible repeat (first | refine blk_drewN ?_ _ | refine blk_drew ?_ | refine blk_alloc ?_ _)); exact BK230.out) hg (Kd.N_ne HO_231001.out BK230.out (by decide))); have n4_ := Aside0.mk (Kd.V_afterv (ok := (fun k_ => (P0_1_ k_ ∨ w.heap.size ≤ k_) ∧ k_ ≠ gb228 ∧ k_ ≠ gb229 ∧ k_ ≠ gb230 ∧ k_ ≠ gb232)) (by (with_reducible repeat (first | apply Kd.V_alloc | apply Kd.V_drewN | apply Kd.V_drew)); exact Kd.V_mono HL231_3.out (fun _ hk => ⟨⟨hk.1, ⟨hk.2.2.1, ⟨hk.2.2.2.1, ⟨hk.2.2.2.2.1, hk.2.2.2.2.2⟩⟩⟩⟩, hk.2.1⟩)) hg hat); have n5_ := Aside0.mk (blk_grown (g := gb232) (o := .cells #[.int .u32 ((rd_T30 l0_1 x4_1).f0), .int .u32 ((rd_T30 l0_1 x4_1).f1), .int .i64 ((rd_T30 l0_1 x4_1).f2), .slice A231_3 ((rd_T30 l0_1 x4_1).f3).length c231_3] 30 (0, 0)) (by (with_reducible repeat (first | refine blk_drewN ?_ _ | refine blk_drew ?_ | refine blk_alloc ?_ _)); exact BK232.out) hg (Kd.N_ne HO_231001.out BK232.out (by decide))); have n6_ := Aside0.mk (hb); have n7_ := Aside0.mk (ho); clear HO_229001; clear BK228; clear BK229; clear BK230; clear HL231_3; clear BK232; clear HB; clear HO_231001; have HO_229001 := n0_; have BK228 := n1_; have BK229 := n2_; have BK230 := n3_; have HL231_3 := n4_; have BK232 := n5_; have HB := n6_; have HO235 := n7_; clear n0_ n1_ n2_ n3_ n4_ n5_ n6_ n7_; clear ho hb hg hat; obtain ⟨Ao26, co26, eo26⟩ := Kd.N_slice HO235.out; subst eo26; have hcz27_0 : w25.cell? ⟨gb230, 0, none⟩ = some (.int .u32 a0_0) := (blk_cell BK230.out 0).trans rfl; have hcz27_1 : w25.cell? ⟨gb230, 1, none⟩ = some (u231001) := (blk_cell BK230.out 1).trans rfl; have hfz27_0 := blk_frozen BK230.out 0; have hfz27_1 := blk_frozen BK230.out 1))
            go_roundg k1
            case measure => have := HK1.out; omega
            case rel => exact ⟨(wrap64 (x4_1 + 1)), (y233), (.slice Ao26 y233.length co26), (by first | rfl | (simp; done) | (simp [*]; done)), H', ⟨by have := HK1.out; omega⟩, ⟨by (with_reducible repeat (first | apply Kd.V_alloc | apply Kd.V_drewN | apply Kd.V_drew)); exact Kd.V_mono (Kd.V_far (p := ⟨gb230, 1, none⟩) (Kd.V_mono HO_229001.out (fun k_ hk => (⟨hk, hk.1.2.2.2.1⟩ : _ ∧ k_ ≠ gb230))) (fun _ hk => hk.2) (.slice Ao26 y233.length co26)) (fun _ hk => ⟨hk.1.1.1, ⟨hk.1.2, ⟨hk.1.1.2.1, ⟨hk.1.1.2.2.1, hk.1.1.2.2.2.1⟩⟩⟩⟩)⟩, ⟨by (with_reducible repeat (first | apply Kd.N_alloc | apply Kd.N_drewN | apply Kd.N_drew)); exact Kd.N_mono (Kd.N_far (p := ⟨gb230, 1, none⟩) (Kd.N_mono HO235.out (fun k_ hk => (⟨hk, hk.2.2.2.1⟩ : _ ∧ k_ ≠ gb230))) (fun _ hk => hk.2) (.slice Ao26 y233.length co26)) (fun _ hk => ⟨hk.1.1, ⟨hk.1.2.1, ⟨hk.1.2.2.1, hk.1.2.2.2.1⟩⟩⟩)⟩, ⟨by (with_reducible repeat (first | refine blk_drewN ?_ _ | refine blk_drew ?_ | refine blk_alloc ?_ _)); refine blk_far ?_ NB228_230.out _; (with_reducible repeat (first | refine blk_drewN ?_ _ | refine blk_drew ?_ | refine blk_alloc ?_ _)); exact BK228.out⟩, ⟨by (with_reducible repeat (first | refine blk_drewN ?_ _ | refine blk_drew ?_ | refine blk_alloc ?_ _)); refine blk_far ?_ NB229_230.out _; (with_reducible repeat (first | refine blk_drewN ?_ _ | refine blk_drew ?_ | refine blk_alloc ?_ _)); exact BK229.out⟩, ⟨by (with_reducible repeat (first | refine blk_drewN ?_ _ | refine blk_drew ?_ | refine blk_alloc ?_ _)); refine blk_put (cs := #[.int .u32 a0_0, u231001]) ?_ 1 _ rfl; (with_reducible repeat (first | refine blk_drewN ?_ _ | refine blk_drew ?_ | refine blk_alloc ?_ _)); exact BK230.out⟩, ⟨by repeat (first | (with_reducible first | exact HB.out | apply below_alloc | apply pw_below_drewN | apply below_drew1 | refine below_set ?_ GE228.out | refine below_set ?_ GE229.out | refine below_set ?_ GE230.out | refine below_set ?_ GE232.out) | exact HB.out)⟩⟩
          · rw [if_neg c12] at H
            exact absurd H (by simp)
        · rw [if_neg c11] at H
          exact absurd H (by simp)
      · rw [if_neg c10] at H
        have c10b0 : decide (x4_1 < (l0_1.length : Int)) = false := decide_eq_false c10
        clear c10
        simp only [Option.some.injEq, Prod.mk.injEq] at H
        obtain ⟨rfl, rfl⟩ := H
        have hnb28 := NB228_229.out
        have hnc28 := NB229_228.out
        have hnb29 := NB228_230.out
        have hnc29 := NB230_228.out
        have hcz30_0 : wr.cell? ⟨gb228, 0, none⟩ = some (.int .u32 a0_0) := (blk_cell BK228.out 0).trans rfl
        have hcz30_1 : wr.cell? ⟨gb228, 1, none⟩ = some (.slice A0_1 l0_1.length c0_1) := (blk_cell BK228.out 1).trans rfl
        have hfz30_0 := blk_frozen BK228.out 0
        have hfz30_1 := blk_frozen BK228.out 1
        have hnb31 := NB230_229.out
        have hnc31 := NB229_230.out
        have hcz32_0 : wr.cell? ⟨gb230, 0, none⟩ = some (.int .u32 a0_0) := (blk_cell BK230.out 0).trans rfl
        have hcz32_1 : wr.cell? ⟨gb230, 1, none⟩ = some (u231001) := (blk_cell BK230.out 1).trans rfl
        have hfz32_0 := blk_frozen BK230.out 0
        have hfz32_1 := blk_frozen BK230.out 1
        have hcz33_0 : wr.cell? ⟨gb229, 0, none⟩ = some (.int .u32 0) := (blk_cell BK229.out 0).trans rfl
        have hcz33_1 : wr.cell? ⟨gb229, 1, none⟩ = some (.slice none 0 0) := (blk_cell BK229.out 1).trans rfl
        have hfz33_0 := blk_frozen BK229.out 0
        have hfz33_1 := blk_frozen BK229.out 1
        obtain ⟨Ao34, co34, eo34⟩ := Kd.N_slice HO_231001.out
        subst eo34
        go_wp2
        refine bodyPost_ret (results_cell_row rfl _ _ gb229 40 #[.int .u32 a0_0, .slice Ao34 x231001_1.length co34] (0, 0) _ rfl (by (with_reducible repeat (first | refine blk_drewN ?_ _ | refine blk_drew ?_ | refine blk_alloc ?_ _)); refine blk_put (cs := #[.int .u32 a0_0, .slice none 0 0]) ?_ 1 _ rfl; (with_reducible repeat (first | refine blk_drewN ?_ _ | refine blk_drew ?_ | refine blk_alloc ?_ _)); refine blk_put (cs := #[.int .u32 0, .slice none 0 0]) ?_ 0 _ rfl; (with_reducible repeat (first | refine blk_drewN ?_ _ | refine blk_drew ?_ | refine blk_alloc ?_ _)); exact BK229.out) Try.underlying40 rfl (by kernel_rfl)) rfl ?_
        exact ⟨_, by first | rfl | (simp [errW_none, errW_some] <;> rfl) | (simp [*, errW_none, errW_some] <;> rfl), by (with_reducible repeat (first | apply Kd.N_alloc | apply Kd.N_drewN | apply Kd.N_drew)); exact Kd.N_mono (Kd.N_far (p := ⟨gb229, 1, none⟩) (Kd.N_far (p := ⟨gb229, 0, none⟩) (Kd.N_mono HO_231001.out (fun k_ hk => (⟨hk, hk.2.2.1⟩ : _ ∧ k_ ≠ gb229))) (fun _ hk => hk.2) (.int .u32 a0_0)) (fun _ hk => hk.2) (.slice Ao34 x231001_1.length co34)) (fun _ hk => hk.1.1), by repeat (first | (with_reducible first | exact HB.out | apply below_alloc | apply pw_below_drewN | apply below_drew1 | refine below_set ?_ GE228.out | refine below_set ?_ GE229.out | refine below_set ?_ GE230.out) | exact HB.out)⟩
end Go.Proofs.Ytcjaepmecihmlaa.Img
