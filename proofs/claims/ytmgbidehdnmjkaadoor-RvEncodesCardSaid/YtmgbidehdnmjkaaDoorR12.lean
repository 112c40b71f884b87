/- What the reference's signed, Decode answer (its lines began as print.sh's). -/
import Derived.Test.YtmgbidehdnmjkaaDoorR0
import Derived.Test.YtmgbidehdnmjkaaDoorR1
import Derived.Test.YtmgbidehdnmjkaaDoorR7
namespace Go.Proofs.YtmgbidehdnmjkaaDoor.Rv
open Go.RowKit Go.Proofs.YtmgbidehdnmjkaaDoorW.PrintWords Go.Proofs.YtmgbidehdnmjkaaDoorW.PrintLast Go.Proofs.YtmgbidehdnmjkaaDoorW.PrintMore
attribute [local go_sem] max2_int min2_int max_two min_two max_three min_three max_four min_four   -- for this text's walks alone
set_option linter.unusedVariables false
set_option linter.unusedSimpArgs false
/-! ### tinctureref5_signed: function 30 -/
def tinctureref5_signed.f (a0 : Int) (a1 : Int) : Option (Int) := if 0 ≤ (IntKind.u64.wrap (32 - a1)) then (some (shr .i32 (wrap32 (shl .u32 a0 (IntKind.u64.wrap (32 - a1)))) (IntKind.u64.wrap (32 - a1)))) else (none)
set_option maxHeartbeats 8000000 in
set_option maxRecDepth 100000 in
theorem tinctureref5_signed.calls (a0 : Int) (a1 : Int) (r : Int) (w : World) (h : tinctureref5_signed.f a0 a1 = some r) :
    Calls Tryd.prog 30 #[.int .u32 a0, .int .u64 a1] w fun e w' => e = .returned (.int .i32 r) ∧ Drawn0 w w' := by
  have H : (if 0 ≤ (IntKind.u64.wrap (32 - a1)) then (some (shr .i32 (wrap32 (shl .u32 a0 (IntKind.u64.wrap (32 - a1)))) (IntKind.u64.wrap (32 - a1)))) else (none)) = some r := h
  clear h
  obtain ⟨ji3, hji3⟩ : ∃ j_ : Int, (IntKind.u64.wrap (32 - a1)) = j_ := ⟨_, rfl⟩
  replace H : (if 0 ≤ (ji3) then (some (shr .i32 (wrap32 (shl .u32 a0 (ji3))) (ji3))) else (none)) = some r := by first | (rw [hji3] at H; exact H) | (simp only [hji3] at H ⊢; exact H)
  by_cases c4 : 0 ≤ (ji3)
  · rw [if_pos c4] at H
    have c4b0 := eq_true c4
    have c4b1 : decide (0 ≤ (ji3)) = true := decide_eq_true c4
    clear c4
    obtain ⟨ji5, hji5⟩ : ∃ j_ : Int, (shl .u32 a0 (ji3)) = j_ := ⟨_, rfl⟩
    replace H : (some (shr .i32 (wrap32 (ji5)) (ji3))) = some r := by first | (rw [hji5] at H; exact H) | (simp only [hji5] at H ⊢; exact H)
    have hji5_ : (IntKind.u32.wrap (a0 * 2 ^ min (ji3).toNat 32)) = ji5 := hji5
    have hji5z : (ji3) ≤ 32 → (IntKind.u32.wrap (a0 * 2 ^ (ji3).toNat)) = ji5 := shl_small hji5
    have c6b0 := eq_true (of_decide_eq_true (by first | (with_reducible assumption) | assumption) : 0 ≤ (ji3))
    obtain ⟨ji7, hji7⟩ : ∃ j_ : Int, (shr .i32 (wrap32 (ji5)) (ji3)) = j_ := ⟨_, rfl⟩
    replace H : (some ji7) = some r := by first | (rw [hji7] at H; exact H) | (simp only [hji7] at H ⊢; exact H)
    have hji7_ : ((wrap32 (ji5)) / 2 ^ min (ji3).toNat 32) = ji7 := hji7
    have hji7z : (ji3) ≤ 32 → ((wrap32 (ji5)) / 2 ^ (ji3).toNat) = ji7 := shr_small hji7
    obtain rfl := Option.some.inj H
    go_enter Tryd.func30, Tryd.ntmps30
    go_wp2
    go_ret
    exact ⟨by first | rfl | (simp; done) | (simp only [← hji3, ← hji5, ← hji7] <;> (first | rfl | simp)) | (simp [*]; done), by repeat (first | exact Drawn0.refl _ | apply Drawn0.step)⟩
  · rw [if_neg c4] at H
    exact absurd H (by simp)
/-! ### tinctureref5_Decode: function 14 -/
mutual
def tinctureref5_Decode.l0 : Nat → Int → Int → Int → Int → Int → Int → Int → Int → Option (Int × Int × Int × Int × Int)
  | 0, _, _, _, _, _, _, _, _ => none
  | k + 1, x0, x3, x4, x5, x6, x7, x8, x9 => if x9 ≤ 47 then ((tinctureref5_form.f x9).bind fun bt212 => (if bt212.1 = x3 then (if x9 > 3 then (if bt212.2.1 = x4 then (if x9 ≥ 25 then (if x9 ≤ 45 then (tinctureref5_Decode.j1 k x0 x3 x4 x5 x6 x7 x8 x9 (bt212.2.2 != x5)) else (tinctureref5_Decode.j1 k x0 x3 x4 x5 x6 x7 x8 x9 false)) else (tinctureref5_Decode.j1 k x0 x3 x4 x5 x6 x7 x8 x9 false)) else (tinctureref5_Decode.j1 k x0 x3 x4 x5 x6 x7 x8 x9 true)) else (if x9 ≥ 25 then (if x9 ≤ 45 then (tinctureref5_Decode.j1 k x0 x3 x4 x5 x6 x7 x8 x9 (bt212.2.2 != x5)) else (tinctureref5_Decode.j1 k x0 x3 x4 x5 x6 x7 x8 x9 false)) else (tinctureref5_Decode.j1 k x0 x3 x4 x5 x6 x7 x8 x9 false))) else (tinctureref5_Decode.j1 k x0 x3 x4 x5 x6 x7 x8 x9 true))) else (some (0, 0, 0, 0, 0))
def tinctureref5_Decode.j1 : Nat → Int → Int → Int → Int → Int → Int → Int → Int → Bool → Option (Int × Int × Int × Int × Int)
  | 0, _, _, _, _, _, _, _, _, _ => none
  | k + 1, x0, x3, x4, x5, x6, x7, x8, x9, x72 => if x72 = true then (tinctureref5_Decode.l0 k x0 x3 x4 x5 x6 x7 x8 (wrap64 (x9 + 1))) else (if x9 ≤ 2 then (some (x9, x6, 0, 0, wrap32 (Go.bits .and .u32 x0 4294963200))) else (if x9 = 3 then ((tinctureref5_signed.f (Go.bits .or .u32 (Go.bits .or .u32 (Go.bits .or .u32 (((x0 / 2147483648) * 1048576) % 4294967296) (((Go.bits .and .u32 (x0 / 4096) 255) * 4096) % 4294967296)) (((Go.bits .and .u32 (x0 / 1048576) 1) * 2048) % 4294967296)) (((Go.bits .and .u32 (x0 / 2097152) 1023) * 2) % 4294967296)) 21).bind fun t215 => (some (x9, x6, 0, 0, t215))) else (if x9 = 4 then (tinctureref5_Decode.j2 k x0 x6 x7 x8 x9 true) else (if x9 ≥ 11 then (if x9 ≤ 15 then (tinctureref5_Decode.j2 k x0 x6 x7 x8 x9 true) else (if x9 ≥ 19 then (tinctureref5_Decode.j2 k x0 x6 x7 x8 x9 (decide (x9 ≤ 24))) else (tinctureref5_Decode.j2 k x0 x6 x7 x8 x9 false))) else (if x9 ≥ 19 then (tinctureref5_Decode.j2 k x0 x6 x7 x8 x9 (decide (x9 ≤ 24))) else (tinctureref5_Decode.j2 k x0 x6 x7 x8 x9 false))))))
def tinctureref5_Decode.j2 : Nat → Int → Int → Int → Int → Int → Bool → Option (Int × Int × Int × Int × Int)
  | 0, _, _, _, _, _, _ => none
  | k + 1, x0, x6, x7, x8, x9, x107 => if x107 = true then ((tinctureref5_signed.f (x0 / 1048576) 12).bind fun t216 => (some (x9, x6, x7, 0, t216))) else (if x9 ≤ 10 then ((tinctureref5_signed.f (Go.bits .or .u32 (Go.bits .or .u32 (Go.bits .or .u32 (((x0 / 2147483648) * 4096) % 4294967296) (((Go.bits .and .u32 (x0 / 128) 1) * 2048) % 4294967296)) (((Go.bits .and .u32 (x0 / 33554432) 63) * 32) % 4294967296)) (((Go.bits .and .u32 (x0 / 256) 15) * 2) % 4294967296)) 13).bind fun t217 => (some (x9, 0, x7, x8, t217))) else (if x9 ≤ 18 then ((tinctureref5_signed.f (Go.bits .or .u32 (((x0 / 33554432) * 32) % 4294967296) (Go.bits .and .u32 (x0 / 128) 31)) 12).bind fun t218 => (some (x9, 0, x7, x8, t218))) else (if x9 ≤ 27 then (some (x9, x6, x7, 0, wrap32 (x8))) else (if x9 ≤ 45 then (some (x9, x6, x7, x8, 0)) else (some (x9, 0, 0, 0, 0))))))
end
def tinctureref5_Decode.f (k : Nat) (a0 : Int) : Option (Int × Int × Int × Int × Int) := if a0 = 115 then (some (48, 0, 0, 0, 0)) else (if a0 = 1048691 then (some (49, 0, 0, 0, 0)) else (tinctureref5_Decode.l0 k a0 (Go.bits .and .u32 a0 127) (Go.bits .and .u32 (a0 / 4096) 7) (a0 / 33554432) (wrap64 (Go.bits .and .u32 (a0 / 128) 31)) (wrap64 (Go.bits .and .u32 (a0 / 32768) 31)) (wrap64 (Go.bits .and .u32 (a0 / 1048576) 31)) 1))
theorem tinctureref5_Decode.mono_l : ∀ k, (∀ y0 y1 y2 y3 y4 y5 y6 y7, LeO (tinctureref5_Decode.l0 k y0 y1 y2 y3 y4 y5 y6 y7) (tinctureref5_Decode.l0 (k + 1) y0 y1 y2 y3 y4 y5 y6 y7)) ∧ (∀ y0 y1 y2 y3 y4 y5 y6 y7 y8, LeO (tinctureref5_Decode.j1 k y0 y1 y2 y3 y4 y5 y6 y7 y8) (tinctureref5_Decode.j1 (k + 1) y0 y1 y2 y3 y4 y5 y6 y7 y8)) ∧ (∀ y0 y1 y2 y3 y4 y5, LeO (tinctureref5_Decode.j2 k y0 y1 y2 y3 y4 y5) (tinctureref5_Decode.j2 (k + 1) y0 y1 y2 y3 y4 y5))
  | 0 => ⟨fun _ _ _ _ _ _ _ _ r h => by simp [tinctureref5_Decode.l0] at h, fun _ _ _ _ _ _ _ _ _ r h => by simp [tinctureref5_Decode.j1] at h, fun _ _ _ _ _ _ r h => by simp [tinctureref5_Decode.j2] at h⟩
  | k + 1 => by
    obtain ⟨ih0, ih1, ih2⟩ := tinctureref5_Decode.mono_l k
    refine ⟨?_, ?_, ?_⟩
    · intro y0 y1 y2 y3 y4 y5 y6 y7
      unfold tinctureref5_Decode.l0
      repeat' first
      | (with_reducible exact ih0 _ _ _ _ _ _ _ _)
      | (with_reducible exact ih1 _ _ _ _ _ _ _ _ _)
      | (with_reducible exact ih2 _ _ _ _ _ _)
      | (with_reducible exact LeO.refl _)
      | (with_reducible exact LeO.none _)
      | (with_reducible refine LeO.ite ?_ ?_)
      | (with_reducible refine LeO.bind ?_ (fun _ => ?_))
      | exact ih0 _ _ _ _ _ _ _ _
      | exact ih1 _ _ _ _ _ _ _ _ _
      | exact ih2 _ _ _ _ _ _
      | exact LeO.none _
      | refine LeO.ite ?_ ?_
      | refine LeO.bind ?_ (fun _ => ?_)
    · intro y0 y1 y2 y3 y4 y5 y6 y7 y8
      unfold tinctureref5_Decode.j1
      repeat' first
      | (with_reducible exact ih0 _ _ _ _ _ _ _ _)
      | (with_reducible exact ih1 _ _ _ _ _ _ _ _ _)
      | (with_reducible exact ih2 _ _ _ _ _ _)
      | (with_reducible exact LeO.refl _)
      | (with_reducible exact LeO.none _)
      | (with_reducible refine LeO.ite ?_ ?_)
      | (with_reducible refine LeO.bind ?_ (fun _ => ?_))
      | exact ih0 _ _ _ _ _ _ _ _
      | exact ih1 _ _ _ _ _ _ _ _ _
      | exact ih2 _ _ _ _ _ _
      | exact LeO.none _
      | refine LeO.ite ?_ ?_
      | refine LeO.bind ?_ (fun _ => ?_)
    · intro y0 y1 y2 y3 y4 y5
      unfold tinctureref5_Decode.j2
      repeat' first
      | (with_reducible exact ih0 _ _ _ _ _ _ _ _)
      | (with_reducible exact ih1 _ _ _ _ _ _ _ _ _)
      | (with_reducible exact ih2 _ _ _ _ _ _)
      | (with_reducible exact LeO.refl _)
      | (with_reducible exact LeO.none _)
      | (with_reducible refine LeO.ite ?_ ?_)
      | (with_reducible refine LeO.bind ?_ (fun _ => ?_))
      | exact ih0 _ _ _ _ _ _ _ _
      | exact ih1 _ _ _ _ _ _ _ _ _
      | exact ih2 _ _ _ _ _ _
      | exact LeO.none _
      | refine LeO.ite ?_ ?_
      | refine LeO.bind ?_ (fun _ => ?_)
theorem tinctureref5_Decode.mono : ∀ a0 k, LeO (tinctureref5_Decode.f k a0) (tinctureref5_Decode.f (k + 1) a0) := by
  intro a0 k
  obtain ⟨ih0, ih1, ih2⟩ := tinctureref5_Decode.mono_l k
  unfold tinctureref5_Decode.f
  repeat' first
      | (with_reducible exact ih0 _ _ _ _ _ _ _ _)
      | (with_reducible exact ih1 _ _ _ _ _ _ _ _ _)
      | (with_reducible exact ih2 _ _ _ _ _ _)
      | (with_reducible exact LeO.refl _)
      | (with_reducible exact LeO.none _)
      | (with_reducible refine LeO.ite ?_ ?_)
      | (with_reducible refine LeO.bind ?_ (fun _ => ?_))
      | exact ih0 _ _ _ _ _ _ _ _
      | exact ih1 _ _ _ _ _ _ _ _ _
      | exact ih2 _ _ _ _ _ _
      | exact LeO.none _
      | refine LeO.ite ?_ ?_
      | refine LeO.bind ?_ (fun _ => ?_)
set_option maxHeartbeats 8000000 in
set_option maxRecDepth 100000 in
theorem tinctureref5_Decode.calls (k : Nat) (a0 : Int) (r1 : Int) (r2 : Int) (r3 : Int) (r4 : Int) (r5 : Int) (w : World) (h : tinctureref5_Decode.f k a0 = some (r1, r2, r3, r4, r5)) :
    Calls Tryd.prog 14 #[.int .u32 a0] w fun e w' => e = .returned (.agg #[.int .i64 r1, .int .i64 r2, .int .i64 r3, .int .i64 r4, .int .i32 r5]) ∧ Below w.heap.size w w' := by
  have hu25 := Tryd.underlying25
  have HB := Aside0.mk (Below.refl w.heap.size w)
  have H : (if a0 = 115 then (some (48, 0, 0, 0, 0)) else (if a0 = 1048691 then (some (49, 0, 0, 0, 0)) else (tinctureref5_Decode.l0 k a0 (Go.bits .and .u32 a0 127) (Go.bits .and .u32 (a0 / 4096) 7) (a0 / 33554432) (wrap64 (Go.bits .and .u32 (a0 / 128) 31)) (wrap64 (Go.bits .and .u32 (a0 / 32768) 31)) (wrap64 (Go.bits .and .u32 (a0 / 1048576) 31)) 1))) = some (r1, r2, r3, r4, r5) := h
  clear h
  by_cases c2 : a0 = 115
  · rw [if_pos c2] at H
    have c2b0 : (a0 == 115) = true := beq_iff_eq.mpr c2
    have c2b1 : (a0 != 115) = false := bne_eq_false_iff_eq.mpr c2
    clear c2
    simp only [Option.some.injEq, Prod.mk.injEq] at H
    obtain ⟨rfl, rfl, rfl, rfl, rfl⟩ := H
    go_enter Tryd.func14, Tryd.ntmps14
    go_wp2_with (first | ((with_reducible refine gate_dst (N := 2) rfl ?_); refine box_event ?hg (N := 2) ?hd (cs := #[.int .i64 0, .int .i64 0, .int .i64 0, .int .i64 0, .int .i32 0]) (t := 25) ?hr ?_; (case hd => rfl); (case hg => rfl); (case hr => first | (go_simp; done) | (go_simp; rfl)); intro gb211 hg w3 hbox hb; have n0_ := Aside0.mk (below_step (by repeat (first | (with_reducible first | exact HB.out | apply below_alloc | apply pw_below_drewN | apply below_drew1) | exact HB.out)) hb); have n1_ := Aside0.mk (hbox); have n2_ := Aside0.mk ((by rw [hg]; exact (below_size (by repeat (first | (with_reducible first | exact HB.out | apply below_alloc | apply pw_below_drewN | apply below_drew1) | exact HB.out))) : w.heap.size ≤ gb211)); have n3_ := Aside0.mk ((by rw [hg]; exact (below_size (by repeat (first | (with_reducible first | exact HB.out | apply below_alloc | apply pw_below_drewN | apply below_drew1) | exact HB.out))) : w.heap.size ≤ gb211)); clear HB; have HB := n0_; have BK211 := n1_; have GW211 := n2_; have GE211 := n3_; clear n0_ n1_ n2_ n3_; clear hb hbox hg; have hcz4_0 : w3.cell? ⟨gb211, 0, none⟩ = some (.int .i64 0) := (blk_cell BK211.out 0).trans rfl; have hcz4_1 : w3.cell? ⟨gb211, 1, none⟩ = some (.int .i64 0) := (blk_cell BK211.out 1).trans rfl; have hcz4_2 : w3.cell? ⟨gb211, 2, none⟩ = some (.int .i64 0) := (blk_cell BK211.out 2).trans rfl; have hcz4_3 : w3.cell? ⟨gb211, 3, none⟩ = some (.int .i64 0) := (blk_cell BK211.out 3).trans rfl; have hcz4_4 : w3.cell? ⟨gb211, 4, none⟩ = some (.int .i32 0) := (blk_cell BK211.out 4).trans rfl; have hfz4_0 := blk_frozen BK211.out 0; have hfz4_1 := blk_frozen BK211.out 1; have hfz4_2 := blk_frozen BK211.out 2; have hfz4_3 := blk_frozen BK211.out 3; have hfz4_4 := blk_frozen BK211.out 4))
    refine bodyPost_ret (results_cell_row rfl _ _ gb211 25 #[.int .i64 48, .int .i64 0, .int .i64 0, .int .i64 0, .int .i32 0] (0, 0) _ rfl (by (with_reducible repeat (first | refine blk_drewN ?_ _ | refine blk_drew ?_ | refine blk_alloc ?_ _)); refine blk_put (cs := #[.int .i64 48, .int .i64 0, .int .i64 0, .int .i64 0, .int .i32 0]) ?_ 4 _ rfl; (with_reducible repeat (first | refine blk_drewN ?_ _ | refine blk_drew ?_ | refine blk_alloc ?_ _)); refine blk_put (cs := #[.int .i64 48, .int .i64 0, .int .i64 0, .int .i64 0, .int .i32 0]) ?_ 3 _ rfl; (with_reducible repeat (first | refine blk_drewN ?_ _ | refine blk_drew ?_ | refine blk_alloc ?_ _)); refine blk_put (cs := #[.int .i64 48, .int .i64 0, .int .i64 0, .int .i64 0, .int .i32 0]) ?_ 2 _ rfl; (with_reducible repeat (first | refine blk_drewN ?_ _ | refine blk_drew ?_ | refine blk_alloc ?_ _)); refine blk_put (cs := #[.int .i64 48, .int .i64 0, .int .i64 0, .int .i64 0, .int .i32 0]) ?_ 1 _ rfl; (with_reducible repeat (first | refine blk_drewN ?_ _ | refine blk_drew ?_ | refine blk_alloc ?_ _)); refine blk_put (cs := #[.int .i64 0, .int .i64 0, .int .i64 0, .int .i64 0, .int .i32 0]) ?_ 0 _ rfl; (with_reducible repeat (first | refine blk_drewN ?_ _ | refine blk_drew ?_ | refine blk_alloc ?_ _)); exact BK211.out) Tryd.underlying25 rfl (by kernel_rfl)) rfl ?_
    exact ⟨by first | rfl | (simp [errW_none, errW_some] <;> rfl) | (simp [*, errW_none, errW_some] <;> rfl), by repeat (first | (with_reducible first | exact HB.out | apply below_alloc | apply pw_below_drewN | apply below_drew1 | refine below_set ?_ GE211.out) | exact HB.out)⟩
  · rw [if_neg c2] at H
    have c2b0 : (a0 == 115) = false := beq_eq_false_iff_ne.mpr c2
    have c2b1 : (a0 != 115) = true := bne_iff_ne.mpr c2
    by_cases c5 : a0 = 1048691
    · rw [if_pos c5] at H
      have c5b0 : (a0 == 1048691) = true := beq_iff_eq.mpr c5
      have c5b1 : (a0 != 1048691) = false := bne_eq_false_iff_eq.mpr c5
      clear c5
      simp only [Option.some.injEq, Prod.mk.injEq] at H
      obtain ⟨rfl, rfl, rfl, rfl, rfl⟩ := H
      go_enter Tryd.func14, Tryd.ntmps14
      go_wp2_with (first | ((with_reducible refine gate_dst (N := 2) rfl ?_); refine box_event ?hg (N := 2) ?hd (cs := #[.int .i64 0, .int .i64 0, .int .i64 0, .int .i64 0, .int .i32 0]) (t := 25) ?hr ?_; (case hd => rfl); (case hg => rfl); (case hr => first | (go_simp; done) | (go_simp; rfl)); intro gb211 hg w6 hbox hb; have n0_ := Aside0.mk (below_step (by repeat (first | (with_reducible first | exact HB.out | apply below_alloc | apply pw_below_drewN | apply below_drew1) | exact HB.out)) hb); have n1_ := Aside0.mk (hbox); have n2_ := Aside0.mk ((by rw [hg]; exact (below_size (by repeat (first | (with_reducible first | exact HB.out | apply below_alloc | apply pw_below_drewN | apply below_drew1) | exact HB.out))) : w.heap.size ≤ gb211)); have n3_ := Aside0.mk ((by rw [hg]; exact (below_size (by repeat (first | (with_reducible first | exact HB.out | apply below_alloc | apply pw_below_drewN | apply below_drew1) | exact HB.out))) : w.heap.size ≤ gb211)); clear HB; have HB := n0_; have BK211 := n1_; have GW211 := n2_; have GE211 := n3_; clear n0_ n1_ n2_ n3_; clear hb hbox hg; have hcz7_0 : w6.cell? ⟨gb211, 0, none⟩ = some (.int .i64 0) := (blk_cell BK211.out 0).trans rfl; have hcz7_1 : w6.cell? ⟨gb211, 1, none⟩ = some (.int .i64 0) := (blk_cell BK211.out 1).trans rfl; have hcz7_2 : w6.cell? ⟨gb211, 2, none⟩ = some (.int .i64 0) := (blk_cell BK211.out 2).trans rfl; have hcz7_3 : w6.cell? ⟨gb211, 3, none⟩ = some (.int .i64 0) := (blk_cell BK211.out 3).trans rfl; have hcz7_4 : w6.cell? ⟨gb211, 4, none⟩ = some (.int .i32 0) := (blk_cell BK211.out 4).trans rfl; have hfz7_0 := blk_frozen BK211.out 0; have hfz7_1 := blk_frozen BK211.out 1; have hfz7_2 := blk_frozen BK211.out 2; have hfz7_3 := blk_frozen BK211.out 3; have hfz7_4 := blk_frozen BK211.out 4))
      refine bodyPost_ret (results_cell_row rfl _ _ gb211 25 #[.int .i64 49, .int .i64 0, .int .i64 0, .int .i64 0, .int .i32 0] (0, 0) _ rfl (by (with_reducible repeat (first | refine blk_drewN ?_ _ | refine blk_drew ?_ | refine blk_alloc ?_ _)); refine blk_put (cs := #[.int .i64 49, .int .i64 0, .int .i64 0, .int .i64 0, .int .i32 0]) ?_ 4 _ rfl; (with_reducible repeat (first | refine blk_drewN ?_ _ | refine blk_drew ?_ | refine blk_alloc ?_ _)); refine blk_put (cs := #[.int .i64 49, .int .i64 0, .int .i64 0, .int .i64 0, .int .i32 0]) ?_ 3 _ rfl; (with_reducible repeat (first | refine blk_drewN ?_ _ | refine blk_drew ?_ | refine blk_alloc ?_ _)); refine blk_put (cs := #[.int .i64 49, .int .i64 0, .int .i64 0, .int .i64 0, .int .i32 0]) ?_ 2 _ rfl; (with_reducible repeat (first | refine blk_drewN ?_ _ | refine blk_drew ?_ | refine blk_alloc ?_ _)); refine blk_put (cs := #[.int .i64 49, .int .i64 0, .int .i64 0, .int .i64 0, .int .i32 0]) ?_ 1 _ rfl; (with_reducible repeat (first | refine blk_drewN ?_ _ | refine blk_drew ?_ | refine blk_alloc ?_ _)); refine blk_put (cs := #[.int .i64 0, .int .i64 0, .int .i64 0, .int .i64 0, .int .i32 0]) ?_ 0 _ rfl; (with_reducible repeat (first | refine blk_drewN ?_ _ | refine blk_drew ?_ | refine blk_alloc ?_ _)); exact BK211.out) Tryd.underlying25 rfl (by kernel_rfl)) rfl ?_
      exact ⟨by first | rfl | (simp [errW_none, errW_some] <;> rfl) | (simp [*, errW_none, errW_some] <;> rfl), by repeat (first | (with_reducible first | exact HB.out | apply below_alloc | apply pw_below_drewN | apply below_drew1 | refine below_set ?_ GE211.out) | exact HB.out)⟩
    · rw [if_neg c5] at H
      have c5b0 : (a0 == 1048691) = false := beq_eq_false_iff_ne.mpr c5
      have c5b1 : (a0 != 1048691) = true := bne_iff_ne.mpr c5
      have H' := Aside0.mk H
      clear H
      go_enter Tryd.func14, Tryd.ntmps14
      go_wp2_with (first | ((with_reducible refine gate_dst (N := 2) rfl ?_); refine box_event ?hg (N := 2) ?hd (cs := #[.int .i64 0, .int .i64 0, .int .i64 0, .int .i64 0, .int .i32 0]) (t := 25) ?hr ?_; (case hd => rfl); (case hg => rfl); (case hr => first | (go_simp; done) | (go_simp; rfl)); intro gb211 hg w8 hbox hb; have n0_ := Aside0.mk (below_step (by repeat (first | (with_reducible first | exact HB.out | apply below_alloc | apply pw_below_drewN | apply below_drew1) | exact HB.out)) hb); have n1_ := Aside0.mk (hbox); have n2_ := Aside0.mk ((by rw [hg]; exact (below_size (by repeat (first | (with_reducible first | exact HB.out | apply below_alloc | apply pw_below_drewN | apply below_drew1) | exact HB.out))) : w.heap.size ≤ gb211)); have n3_ := Aside0.mk ((by rw [hg]; exact (below_size (by repeat (first | (with_reducible first | exact HB.out | apply below_alloc | apply pw_below_drewN | apply below_drew1) | exact HB.out))) : w.heap.size ≤ gb211)); clear HB; have HB := n0_; have BK211 := n1_; have GW211 := n2_; have GE211 := n3_; clear n0_ n1_ n2_ n3_; clear hb hbox hg))
      go_loopg [9] k (fun kq v9 w' => ∃ (x9_1 : Int) (x212000_1 : Int) (x212001_1 : Int) (x212002_1 : Int) (x212003_1 : Int) (x212004_1 : Int), v9 = .int .i64 x9_1 ∧ Aside0 (tinctureref5_Decode.l0 kq a0 (Go.bits .and .u32 a0 127) (Go.bits .and .u32 (a0 / 4096) 7) (a0 / 33554432) (wrap64 (Go.bits .and .u32 (a0 / 128) 31)) (wrap64 (Go.bits .and .u32 (a0 / 32768) 31)) (wrap64 (Go.bits .and .u32 (a0 / 1048576) 31)) x9_1 = some (r1, r2, r3, r4, r5)) ∧ Aside0 (kq ≤ k) ∧ Aside0 (w'.heap[gb211]? = some (.cells #[.int .i64 x212000_1, .int .i64 x212001_1, .int .i64 x212002_1, .int .i64 x212003_1, .int .i32 x212004_1] 25 (0, 0))) ∧ Aside0 (Below w.heap.size w w'))
      case atStart => exact ⟨(1), (0), (0), (0), (0), (0), (by first | rfl | (simp; done) | (simp [*]; done)), H', ⟨Nat.le_refl _⟩, ⟨by (with_reducible repeat (first | refine blk_drewN ?_ _ | refine blk_drew ?_ | refine blk_alloc ?_ _)); exact BK211.out⟩, ⟨by repeat (first | (with_reducible first | exact HB.out | apply below_alloc | apply pw_below_drewN | apply below_drew1 | refine below_set ?_ GE211.out) | exact HB.out)⟩⟩
      case round =>
        clear H'
        try clear c1
        try clear c2
        try clear c2b0
        try clear c2b1
        try clear p2
        try clear c5
        try clear c5b0
        try clear c5b1
        try clear p6
        try clear hcz4_0
        try clear hcz4_1
        try clear hcz4_2
        try clear hcz4_3
        try clear hcz4_4
        try clear hcz7_0
        try clear hcz7_1
        try clear hcz7_2
        try clear hcz7_3
        try clear hcz7_4
        try clear hfz4_0
        try clear hfz4_1
        try clear hfz4_2
        try clear hfz4_3
        try clear hfz4_4
        try clear hfz7_0
        try clear hfz7_1
        try clear hfz7_2
        try clear hfz7_3
        try clear hfz7_4
        obtain ⟨x9_1, x212000_1, x212001_1, x212002_1, x212003_1, x212004_1, rfl, HA, HK1, BK211, HB⟩ := hrel
        cases gk with
        | zero => exact absurd HA.out (by simp [tinctureref5_Decode.l0])
        | succ k1 =>
          have H := HA.out
          clear HA
          simp only [tinctureref5_Decode.l0] at H
          by_cases c9 : x9_1 ≤ 47
          · rw [if_pos c9] at H
            have c9b0 : decide (x9_1 ≤ 47) = true := decide_eq_true c9
            clear c9
            replace H := Option.bind_eq_some_iff.mp H
            obtain ⟨⟨t212, t213, t214⟩, A100, H⟩ := H
            replace H : (if t212 = (Go.bits .and .u32 a0 127) then (if x9_1 > 3 then (if t213 = (Go.bits .and .u32 (a0 / 4096) 7) then (if x9_1 ≥ 25 then (if x9_1 ≤ 45 then (tinctureref5_Decode.j1 k1 a0 (Go.bits .and .u32 a0 127) (Go.bits .and .u32 (a0 / 4096) 7) (a0 / 33554432) (wrap64 (Go.bits .and .u32 (a0 / 128) 31)) (wrap64 (Go.bits .and .u32 (a0 / 32768) 31)) (wrap64 (Go.bits .and .u32 (a0 / 1048576) 31)) x9_1 (t214 != (a0 / 33554432))) else (tinctureref5_Decode.j1 k1 a0 (Go.bits .and .u32 a0 127) (Go.bits .and .u32 (a0 / 4096) 7) (a0 / 33554432) (wrap64 (Go.bits .and .u32 (a0 / 128) 31)) (wrap64 (Go.bits .and .u32 (a0 / 32768) 31)) (wrap64 (Go.bits .and .u32 (a0 / 1048576) 31)) x9_1 false)) else (tinctureref5_Decode.j1 k1 a0 (Go.bits .and .u32 a0 127) (Go.bits .and .u32 (a0 / 4096) 7) (a0 / 33554432) (wrap64 (Go.bits .and .u32 (a0 / 128) 31)) (wrap64 (Go.bits .and .u32 (a0 / 32768) 31)) (wrap64 (Go.bits .and .u32 (a0 / 1048576) 31)) x9_1 false)) else (tinctureref5_Decode.j1 k1 a0 (Go.bits .and .u32 a0 127) (Go.bits .and .u32 (a0 / 4096) 7) (a0 / 33554432) (wrap64 (Go.bits .and .u32 (a0 / 128) 31)) (wrap64 (Go.bits .and .u32 (a0 / 32768) 31)) (wrap64 (Go.bits .and .u32 (a0 / 1048576) 31)) x9_1 true)) else (if x9_1 ≥ 25 then (if x9_1 ≤ 45 then (tinctureref5_Decode.j1 k1 a0 (Go.bits .and .u32 a0 127) (Go.bits .and .u32 (a0 / 4096) 7) (a0 / 33554432) (wrap64 (Go.bits .and .u32 (a0 / 128) 31)) (wrap64 (Go.bits .and .u32 (a0 / 32768) 31)) (wrap64 (Go.bits .and .u32 (a0 / 1048576) 31)) x9_1 (t214 != (a0 / 33554432))) else (tinctureref5_Decode.j1 k1 a0 (Go.bits .and .u32 a0 127) (Go.bits .and .u32 (a0 / 4096) 7) (a0 / 33554432) (wrap64 (Go.bits .and .u32 (a0 / 128) 31)) (wrap64 (Go.bits .and .u32 (a0 / 32768) 31)) (wrap64 (Go.bits .and .u32 (a0 / 1048576) 31)) x9_1 false)) else (tinctureref5_Decode.j1 k1 a0 (Go.bits .and .u32 a0 127) (Go.bits .and .u32 (a0 / 4096) 7) (a0 / 33554432) (wrap64 (Go.bits .and .u32 (a0 / 128) 31)) (wrap64 (Go.bits .and .u32 (a0 / 32768) 31)) (wrap64 (Go.bits .and .u32 (a0 / 1048576) 31)) x9_1 false))) else (tinctureref5_Decode.j1 k1 a0 (Go.bits .and .u32 a0 127) (Go.bits .and .u32 (a0 / 4096) 7) (a0 / 33554432) (wrap64 (Go.bits .and .u32 (a0 / 128) 31)) (wrap64 (Go.bits .and .u32 (a0 / 32768) 31)) (wrap64 (Go.bits .and .u32 (a0 / 1048576) 31)) x9_1 true)) = some (r1, r2, r3, r4, r5) := H
            have A10 := Aside0.mk A100
            clear A100
            have HC11 := Aside0.mk H
            clear H
            go_upto_region 11 with (first | ((with_reducible refine gate_callee (f := 29) rfl ?_); refine goesL_ (some 44) rfl rfl Tryd.func29 (by kernel_rfl) rfl #[.int .i64 x9_1] rfl (by (try simp only [List.map_toArray, List.map_cons, List.map_nil]); first | done | rfl | (simp only [List.length_drop, List.length_take]; rfl)) ?_; (with_reducible refine (tinctureref5_form.calls x9_1 t212 t213 t214 _ A10.out).mono ?_); rintro e w12 ⟨rfl, hb⟩; refine ⟨_, rfl, ?_⟩; have n0_ := Aside0.mk (blk_below (g := gb211) (o := .cells #[.int .i64 x212000_1, .int .i64 x212001_1, .int .i64 x212002_1, .int .i64 x212003_1, .int .i32 x212004_1] 25 (0, 0)) (by (with_reducible repeat (first | refine blk_drewN ?_ _ | refine blk_drew ?_ | refine blk_alloc ?_ _)); exact BK211.out) hb); have n1_ := Aside0.mk (below_step (by repeat (first | (with_reducible first | exact HB.out | apply below_alloc | apply pw_below_drewN | apply below_drew1 | refine below_set ?_ GE211.out) | exact HB.out)) hb); clear BK211; clear HB; have BK211 := n0_; have HB := n1_; clear n0_ n1_; (try clear hb); (try clear hb2); (try clear hk); (try clear hi)))
            (try simp only [Act.put, List.setIfInBounds_toArray, List.set_cons_zero, List.set_cons_succ])
            go_cut [72] (fun v72 wc => ∃ (kq : Nat) (x72_10 : Bool), v72 = .bool x72_10 ∧ Aside0 (tinctureref5_Decode.j1 kq a0 (Go.bits .and .u32 a0 127) (Go.bits .and .u32 (a0 / 4096) 7) (a0 / 33554432) (wrap64 (Go.bits .and .u32 (a0 / 128) 31)) (wrap64 (Go.bits .and .u32 (a0 / 32768) 31)) (wrap64 (Go.bits .and .u32 (a0 / 1048576) 31)) x9_1 x72_10 = some (r1, r2, r3, r4, r5)) ∧ Aside0 (kq ≤ k1) ∧ Aside0 (wc.heap[gb211]? = some (.cells #[.int .i64 x212000_1, .int .i64 x212001_1, .int .i64 x212002_1, .int .i64 x212003_1, .int .i32 x212004_1] 25 (0, 0))) ∧ Aside0 (Below w.heap.size w wc))
            case first =>
              have H := HC11.out
              clear HC11
              by_cases c13 : t212 = (Go.bits .and .u32 a0 127)
              · rw [if_pos c13] at H
                have c13b0 : (t212 == (Go.bits .and .u32 a0 127)) = true := beq_iff_eq.mpr c13
                have c13b1 : (t212 != (Go.bits .and .u32 a0 127)) = false := bne_eq_false_iff_eq.mpr c13
                clear c13
                (first | rw [c13b0] | (simp only [i64_w, i32_w]; rw [c13b0]) | skip)
                by_cases c14 : x9_1 > 3
                · rw [if_pos c14] at H
                  have c14b0 : decide (3 < x9_1) = true := decide_eq_true c14
                  clear c14
                  by_cases c15 : t213 = (Go.bits .and .u32 (a0 / 4096) 7)
                  · rw [if_pos c15] at H
                    have c15b0 : (t213 == (Go.bits .and .u32 (a0 / 4096) 7)) = true := beq_iff_eq.mpr c15
                    have c15b1 : (t213 != (Go.bits .and .u32 (a0 / 4096) 7)) = false := bne_eq_false_iff_eq.mpr c15
                    clear c15
                    by_cases c16 : x9_1 ≥ 25
                    · rw [if_pos c16] at H
                      have c16b0 : decide (25 ≤ x9_1) = true := decide_eq_true c16
                      clear c16
                      by_cases c17 : x9_1 ≤ 45
                      · rw [if_pos c17] at H
                        have c17b0 : decide (x9_1 ≤ 45) = true := decide_eq_true c17
                        clear c17
                        have H' := Aside0.mk H
                        clear H
                        go_wp2
                        go_meet
                        case rel => exact ⟨_, ((t214 != (a0 / 33554432))), (by first | rfl | (simp; done) | (simp [*]; done)), H', ⟨by have := HK1.out; first | omega | exact Nat.le_refl _⟩, ⟨by (with_reducible repeat (first | refine blk_drewN ?_ _ | refine blk_drew ?_ | refine blk_alloc ?_ _)); exact BK211.out⟩, ⟨by repeat (first | (with_reducible first | exact HB.out | apply below_alloc | apply pw_below_drewN | apply below_drew1 | refine below_set ?_ GE211.out) | exact HB.out)⟩⟩
                      · rw [if_neg c17] at H
                        have c17b0 : decide (x9_1 ≤ 45) = false := decide_eq_false c17
                        clear c17
                        have H' := Aside0.mk H
                        clear H
                        go_wp2
                        go_meet
                        case rel => exact ⟨_, (false), (by first | rfl | (simp; done) | (simp [*]; done)), H', ⟨by have := HK1.out; first | omega | exact Nat.le_refl _⟩, ⟨by (with_reducible repeat (first | refine blk_drewN ?_ _ | refine blk_drew ?_ | refine blk_alloc ?_ _)); exact BK211.out⟩, ⟨by repeat (first | (with_reducible first | exact HB.out | apply below_alloc | apply pw_below_drewN | apply below_drew1 | refine below_set ?_ GE211.out) | exact HB.out)⟩⟩
                    · rw [if_neg c16] at H
                      have c16b0 : decide (25 ≤ x9_1) = false := decide_eq_false c16
                      clear c16
                      have H' := Aside0.mk H
                      clear H
                      go_wp2
                      go_meet
                      case rel => exact ⟨_, (false), (by first | rfl | (simp; done) | (simp [*]; done)), H', ⟨by have := HK1.out; first | omega | exact Nat.le_refl _⟩, ⟨by (with_reducible repeat (first | refine blk_drewN ?_ _ | refine blk_drew ?_ | refine blk_alloc ?_ _)); exact BK211.out⟩, ⟨by repeat (first | (with_reducible first | exact HB.out | apply below_alloc | apply pw_below_drewN | apply below_drew1 | refine below_set ?_ GE211.out) | exact HB.out)⟩⟩
                  · rw [if_neg c15] at H
                    have c15b0 : (t213 == (Go.bits .and .u32 (a0 / 4096) 7)) = false := beq_eq_false_iff_ne.mpr c15
                    have c15b1 : (t213 != (Go.bits .and .u32 (a0 / 4096) 7)) = true := bne_iff_ne.mpr c15
                    have H' := Aside0.mk H
                    clear H
                    go_wp2
                    go_meet
                    case rel => exact ⟨_, (true), (by first | rfl | (simp; done) | (simp [*]; done)), H', ⟨by have := HK1.out; first | omega | exact Nat.le_refl _⟩, ⟨by (with_reducible repeat (first | refine blk_drewN ?_ _ | refine blk_drew ?_ | refine blk_alloc ?_ _)); exact BK211.out⟩, ⟨by repeat (first | (with_reducible first | exact HB.out | apply below_alloc | apply pw_below_drewN | apply below_drew1 | refine below_set ?_ GE211.out) | exact HB.out)⟩⟩
                · rw [if_neg c14] at H
                  have c14b0 : decide (3 < x9_1) = false := decide_eq_false c14
                  clear c14
                  by_cases c18 : x9_1 ≥ 25
                  · rw [if_pos c18] at H
                    have c18b0 : decide (25 ≤ x9_1) = true := decide_eq_true c18
                    clear c18
                    by_cases c19 : x9_1 ≤ 45
                    · rw [if_pos c19] at H
                      have c19b0 : decide (x9_1 ≤ 45) = true := decide_eq_true c19
                      clear c19
                      have H' := Aside0.mk H
                      clear H
                      go_wp2
                      go_meet
                      case rel => exact ⟨_, ((t214 != (a0 / 33554432))), (by first | rfl | (simp; done) | (simp [*]; done)), H', ⟨by have := HK1.out; first | omega | exact Nat.le_refl _⟩, ⟨by (with_reducible repeat (first | refine blk_drewN ?_ _ | refine blk_drew ?_ | refine blk_alloc ?_ _)); exact BK211.out⟩, ⟨by repeat (first | (with_reducible first | exact HB.out | apply below_alloc | apply pw_below_drewN | apply below_drew1 | refine below_set ?_ GE211.out) | exact HB.out)⟩⟩
                    · rw [if_neg c19] at H
                      have c19b0 : decide (x9_1 ≤ 45) = false := decide_eq_false c19
                      clear c19
                      have H' := Aside0.mk H
                      clear H
                      go_wp2
                      go_meet
                      case rel => exact ⟨_, (false), (by first | rfl | (simp; done) | (simp [*]; done)), H', ⟨by have := HK1.out; first | omega | exact Nat.le_refl _⟩, ⟨by (with_reducible repeat (first | refine blk_drewN ?_ _ | refine blk_drew ?_ | refine blk_alloc ?_ _)); exact BK211.out⟩, ⟨by repeat (first | (with_reducible first | exact HB.out | apply below_alloc | apply pw_below_drewN | apply below_drew1 | refine below_set ?_ GE211.out) | exact HB.out)⟩⟩
                  · rw [if_neg c18] at H
                    have c18b0 : decide (25 ≤ x9_1) = false := decide_eq_false c18
                    clear c18
                    have H' := Aside0.mk H
                    clear H
                    go_wp2
                    go_meet
                    case rel => exact ⟨_, (false), (by first | rfl | (simp; done) | (simp [*]; done)), H', ⟨by have := HK1.out; first | omega | exact Nat.le_refl _⟩, ⟨by (with_reducible repeat (first | refine blk_drewN ?_ _ | refine blk_drew ?_ | refine blk_alloc ?_ _)); exact BK211.out⟩, ⟨by repeat (first | (with_reducible first | exact HB.out | apply below_alloc | apply pw_below_drewN | apply below_drew1 | refine below_set ?_ GE211.out) | exact HB.out)⟩⟩
              · rw [if_neg c13] at H
                have c13b0 : (t212 == (Go.bits .and .u32 a0 127)) = false := beq_eq_false_iff_ne.mpr c13
                have c13b1 : (t212 != (Go.bits .and .u32 a0 127)) = true := bne_iff_ne.mpr c13
                (first | rw [c13b0] | (simp only [i64_w, i32_w]; rw [c13b0]) | skip)
                have H' := Aside0.mk H
                clear H
                go_wp2
                go_meet
                case rel => exact ⟨_, (true), (by first | rfl | (simp; done) | (simp [*]; done)), H', ⟨by have := HK1.out; first | omega | exact Nat.le_refl _⟩, ⟨by (with_reducible repeat (first | refine blk_drewN ?_ _ | refine blk_drew ?_ | refine blk_alloc ?_ _)); exact BK211.out⟩, ⟨by repeat (first | (with_reducible first | exact HB.out | apply below_alloc | apply pw_below_drewN | apply below_drew1 | refine below_set ?_ GE211.out) | exact HB.out)⟩⟩
            case rest =>
              clear HC11
              try clear c1
              try clear c2
              try clear c2b0
              try clear c2b1
              try clear p2
              try clear c5
              try clear c5b0
              try clear c5b1
              try clear p6
              try clear c9
              try clear c9b0
              try clear c13
              try clear c13b0
              try clear c13b1
              try clear c14
              try clear c14b0
              try clear c15
              try clear c15b0
              try clear c15b1
              try clear c16
              try clear c16b0
              try clear c17
              try clear c17b0
              try clear c18
              try clear c18b0
              try clear c19
              try clear c19b0
              try clear hcz4_0
              try clear hcz4_1
              try clear hcz4_2
              try clear hcz4_3
              try clear hcz4_4
              try clear hcz7_0
              try clear hcz7_1
              try clear hcz7_2
              try clear hcz7_3
              try clear hcz7_4
              try clear hfz4_0
              try clear hfz4_1
              try clear hfz4_2
              try clear hfz4_3
              try clear hfz4_4
              try clear hfz7_0
              try clear hfz7_1
              try clear hfz7_2
              try clear hfz7_3
              try clear hfz7_4
              try clear p2
              try clear p6
              obtain ⟨kq, x72_10, rfl, HA, HJ10, BK211, HB⟩ := hcut
              cases kq with
              | zero => exact absurd HA.out (by simp [tinctureref5_Decode.j1])
              | succ kj10 =>
                have H := HA.out
                clear HA
                simp only [tinctureref5_Decode.j1] at H
                by_cases c20 : x72_10 = true
                · subst c20
                  have H1 : (tinctureref5_Decode.l0 kj10 a0 (Go.bits .and .u32 a0 127) (Go.bits .and .u32 (a0 / 4096) 7) (a0 / 33554432) (wrap64 (Go.bits .and .u32 (a0 / 128) 31)) (wrap64 (Go.bits .and .u32 (a0 / 32768) 31)) (wrap64 (Go.bits .and .u32 (a0 / 1048576) 31)) (wrap64 (x9_1 + 1))) = some (r1, r2, r3, r4, r5) := by rw [if_pos rfl] at H; exact H
                  clear H
                  have H := H1
                  clear H1
                  have H' := Aside0.mk H
                  clear H
                  go_wp2
                  go_roundg kj10
                  case measure => have := HK1.out; have := HJ10.out; omega
                  case rel => exact ⟨(wrap64 (x9_1 + 1)), (x212000_1), (x212001_1), (x212002_1), (x212003_1), (x212004_1), (by first | rfl | (simp; done) | (simp [*]; done)), H', ⟨by have := HK1.out; have := HJ10.out; omega⟩, ⟨by (with_reducible repeat (first | refine blk_drewN ?_ _ | refine blk_drew ?_ | refine blk_alloc ?_ _)); exact BK211.out⟩, ⟨by repeat (first | (with_reducible first | exact HB.out | apply below_alloc | apply pw_below_drewN | apply below_drew1 | refine below_set ?_ GE211.out) | exact HB.out)⟩⟩
                · replace c20 := Bool.eq_false_iff.mpr c20
                  subst c20
                  have H1 : (if x9_1 ≤ 2 then (some (x9_1, (wrap64 (Go.bits .and .u32 (a0 / 128) 31)), 0, 0, wrap32 (Go.bits .and .u32 a0 4294963200))) else (if x9_1 = 3 then ((tinctureref5_signed.f (Go.bits .or .u32 (Go.bits .or .u32 (Go.bits .or .u32 (((a0 / 2147483648) * 1048576) % 4294967296) (((Go.bits .and .u32 (a0 / 4096) 255) * 4096) % 4294967296)) (((Go.bits .and .u32 (a0 / 1048576) 1) * 2048) % 4294967296)) (((Go.bits .and .u32 (a0 / 2097152) 1023) * 2) % 4294967296)) 21).bind fun t215 => (some (x9_1, (wrap64 (Go.bits .and .u32 (a0 / 128) 31)), 0, 0, t215))) else (if x9_1 = 4 then (tinctureref5_Decode.j2 kj10 a0 (wrap64 (Go.bits .and .u32 (a0 / 128) 31)) (wrap64 (Go.bits .and .u32 (a0 / 32768) 31)) (wrap64 (Go.bits .and .u32 (a0 / 1048576) 31)) x9_1 true) else (if x9_1 ≥ 11 then (if x9_1 ≤ 15 then (tinctureref5_Decode.j2 kj10 a0 (wrap64 (Go.bits .and .u32 (a0 / 128) 31)) (wrap64 (Go.bits .and .u32 (a0 / 32768) 31)) (wrap64 (Go.bits .and .u32 (a0 / 1048576) 31)) x9_1 true) else (if x9_1 ≥ 19 then (tinctureref5_Decode.j2 kj10 a0 (wrap64 (Go.bits .and .u32 (a0 / 128) 31)) (wrap64 (Go.bits .and .u32 (a0 / 32768) 31)) (wrap64 (Go.bits .and .u32 (a0 / 1048576) 31)) x9_1 (decide (x9_1 ≤ 24))) else (tinctureref5_Decode.j2 kj10 a0 (wrap64 (Go.bits .and .u32 (a0 / 128) 31)) (wrap64 (Go.bits .and .u32 (a0 / 32768) 31)) (wrap64 (Go.bits .and .u32 (a0 / 1048576) 31)) x9_1 false))) else (if x9_1 ≥ 19 then (tinctureref5_Decode.j2 kj10 a0 (wrap64 (Go.bits .and .u32 (a0 / 128) 31)) (wrap64 (Go.bits .and .u32 (a0 / 32768) 31)) (wrap64 (Go.bits .and .u32 (a0 / 1048576) 31)) x9_1 (decide (x9_1 ≤ 24))) else (tinctureref5_Decode.j2 kj10 a0 (wrap64 (Go.bits .and .u32 (a0 / 128) 31)) (wrap64 (Go.bits .and .u32 (a0 / 32768) 31)) (wrap64 (Go.bits .and .u32 (a0 / 1048576) 31)) x9_1 false)))))) = some (r1, r2, r3, r4, r5) := by rw [if_neg (show ¬ (false = true) by decide)] at H; exact H
                  clear H
                  have H := H1
                  clear H1
                  by_cases c21 : x9_1 ≤ 2
                  · rw [if_pos c21] at H
                    have c21b0 : decide (x9_1 ≤ 2) = true := decide_eq_true c21
                    clear c21
                    simp only [Option.some.injEq, Prod.mk.injEq] at H
                    obtain ⟨rfl, rfl, rfl, rfl, rfl⟩ := H
                    have hcz22_0 : wc.cell? ⟨gb211, 0, none⟩ = some (.int .i64 x212000_1) := (blk_cell BK211.out 0).trans rfl
                    have hcz22_1 : wc.cell? ⟨gb211, 1, none⟩ = some (.int .i64 x212001_1) := (blk_cell BK211.out 1).trans rfl
                    have hcz22_2 : wc.cell? ⟨gb211, 2, none⟩ = some (.int .i64 x212002_1) := (blk_cell BK211.out 2).trans rfl
                    have hcz22_3 : wc.cell? ⟨gb211, 3, none⟩ = some (.int .i64 x212003_1) := (blk_cell BK211.out 3).trans rfl
                    have hcz22_4 : wc.cell? ⟨gb211, 4, none⟩ = some (.int .i32 x212004_1) := (blk_cell BK211.out 4).trans rfl
                    have hfz22_0 := blk_frozen BK211.out 0
                    have hfz22_1 := blk_frozen BK211.out 1
                    have hfz22_2 := blk_frozen BK211.out 2
                    have hfz22_3 := blk_frozen BK211.out 3
                    have hfz22_4 := blk_frozen BK211.out 4
                    go_wp2
                    refine bodyPost_ret (results_cell_row rfl _ _ gb211 25 #[.int .i64 x9_1, .int .i64 (wrap64 (Go.bits .and .u32 (a0 / 128) 31)), .int .i64 0, .int .i64 0, .int .i32 (wrap32 (Go.bits .and .u32 a0 4294963200))] (0, 0) _ rfl (by (with_reducible repeat (first | refine blk_drewN ?_ _ | refine blk_drew ?_ | refine blk_alloc ?_ _)); refine blk_put (cs := #[.int .i64 x9_1, .int .i64 (wrap64 (Go.bits .and .u32 (a0 / 128) 31)), .int .i64 0, .int .i64 0, .int .i32 x212004_1]) ?_ 4 _ rfl; (with_reducible repeat (first | refine blk_drewN ?_ _ | refine blk_drew ?_ | refine blk_alloc ?_ _)); refine blk_put (cs := #[.int .i64 x9_1, .int .i64 (wrap64 (Go.bits .and .u32 (a0 / 128) 31)), .int .i64 0, .int .i64 x212003_1, .int .i32 x212004_1]) ?_ 3 _ rfl; (with_reducible repeat (first | refine blk_drewN ?_ _ | refine blk_drew ?_ | refine blk_alloc ?_ _)); refine blk_put (cs := #[.int .i64 x9_1, .int .i64 (wrap64 (Go.bits .and .u32 (a0 / 128) 31)), .int .i64 x212002_1, .int .i64 x212003_1, .int .i32 x212004_1]) ?_ 2 _ rfl; (with_reducible repeat (first | refine blk_drewN ?_ _ | refine blk_drew ?_ | refine blk_alloc ?_ _)); refine blk_put (cs := #[.int .i64 x9_1, .int .i64 x212001_1, .int .i64 x212002_1, .int .i64 x212003_1, .int .i32 x212004_1]) ?_ 1 _ rfl; (with_reducible repeat (first | refine blk_drewN ?_ _ | refine blk_drew ?_ | refine blk_alloc ?_ _)); refine blk_put (cs := #[.int .i64 x212000_1, .int .i64 x212001_1, .int .i64 x212002_1, .int .i64 x212003_1, .int .i32 x212004_1]) ?_ 0 _ rfl; (with_reducible repeat (first | refine blk_drewN ?_ _ | refine blk_drew ?_ | refine blk_alloc ?_ _)); exact BK211.out) Tryd.underlying25 rfl (by kernel_rfl)) rfl ?_
                    exact ⟨by first | rfl | (simp [errW_none, errW_some] <;> rfl) | (simp [*, errW_none, errW_some] <;> rfl), by repeat (first | (with_reducible first | exact HB.out | apply below_alloc | apply pw_below_drewN | apply below_drew1 | refine below_set ?_ GE211.out) | exact HB.out)⟩
                  · rw [if_neg c21] at H
                    have c21b0 : decide (x9_1 ≤ 2) = false := decide_eq_false c21
                    clear c21
                    by_cases c23 : x9_1 = 3
                    · rw [if_pos c23] at H
                      have c23b0 : (x9_1 == 3) = true := beq_iff_eq.mpr c23
                      have c23b1 : (x9_1 != 3) = false := bne_eq_false_iff_eq.mpr c23
                      clear c23
                      replace H := Option.bind_eq_some_iff.mp H
                      obtain ⟨t215, A240, H⟩ := H
                      replace H : (some (x9_1, (wrap64 (Go.bits .and .u32 (a0 / 128) 31)), 0, 0, t215)) = some (r1, r2, r3, r4, r5) := H
                      have A24 := Aside0.mk A240
                      clear A240
                      simp only [Option.some.injEq, Prod.mk.injEq] at H
                      obtain ⟨rfl, rfl, rfl, rfl, rfl⟩ := H
                      go_wp2_with (first | ((with_reducible refine gate_callee (f := 30) rfl ?_); refine goesL_ (some 105) rfl rfl Tryd.func30 (by kernel_rfl) rfl #[.int .u32 (Go.bits .or .u32 (Go.bits .or .u32 (Go.bits .or .u32 (((a0 / 2147483648) * 1048576) % 4294967296) (((Go.bits .and .u32 (a0 / 4096) 255) * 4096) % 4294967296)) (((Go.bits .and .u32 (a0 / 1048576) 1) * 2048) % 4294967296)) (((Go.bits .and .u32 (a0 / 2097152) 1023) * 2) % 4294967296)), .int .u64 21] rfl (by (try simp only [List.map_toArray, List.map_cons, List.map_nil]); first | done | rfl | (simp only [List.length_drop, List.length_take]; rfl)) ?_; (with_reducible refine (tinctureref5_signed.calls (Go.bits .or .u32 (Go.bits .or .u32 (Go.bits .or .u32 (((a0 / 2147483648) * 1048576) % 4294967296) (((Go.bits .and .u32 (a0 / 4096) 255) * 4096) % 4294967296)) (((Go.bits .and .u32 (a0 / 1048576) 1) * 2048) % 4294967296)) (((Go.bits .and .u32 (a0 / 2097152) 1023) * 2) % 4294967296)) 21 t215 _ A24.out).mono ?_); rintro e w' ⟨rfl, ⟨nd, rfl⟩⟩; refine ⟨_, rfl, ?_⟩; (try (rw [drewN_self wc]; generalize hq_ : World.drewN wc _ = wc; have n0_ : Aside0 (wc.heap[gb211]? = some (.cells #[.int .i64 x212000_1, .int .i64 x212001_1, .int .i64 x212002_1, .int .i64 x212003_1, .int .i32 x212004_1] 25 (0, 0))) := ⟨by rw [← hq_]; exact (by (with_reducible repeat (first | refine blk_drewN ?_ _ | refine blk_drew ?_ | refine blk_alloc ?_ _)); exact BK211.out)⟩; have n1_ : Aside0 (Below w.heap.size w wc) := ⟨by rw [← hq_]; exact (by repeat (first | (with_reducible first | exact HB.out | apply below_alloc | apply pw_below_drewN | apply below_drew1 | refine below_set ?_ GE211.out) | exact HB.out))⟩; clear BK211 HB hq_; have BK211 := n0_; have HB := n1_; clear n0_ n1_)); have hcz25_0 : wc.cell? ⟨gb211, 0, none⟩ = some (.int .i64 x212000_1) := (blk_cell BK211.out 0).trans rfl; have hcz25_1 : wc.cell? ⟨gb211, 1, none⟩ = some (.int .i64 x212001_1) := (blk_cell BK211.out 1).trans rfl; have hcz25_2 : wc.cell? ⟨gb211, 2, none⟩ = some (.int .i64 x212002_1) := (blk_cell BK211.out 2).trans rfl; have hcz25_3 : wc.cell? ⟨gb211, 3, none⟩ = some (.int .i64 x212003_1) := (blk_cell BK211.out 3).trans rfl; have hcz25_4 : wc.cell? ⟨gb211, 4, none⟩ = some (.int .i32 x212004_1) := (blk_cell BK211.out 4).trans rfl; have hfz25_0 := blk_frozen BK211.out 0; have hfz25_1 := blk_frozen BK211.out 1; have hfz25_2 := blk_frozen BK211.out 2; have hfz25_3 := blk_frozen BK211.out 3; have hfz25_4 := blk_frozen BK211.out 4))
                      refine bodyPost_ret (results_cell_row rfl _ _ gb211 25 #[.int .i64 x9_1, .int .i64 (wrap64 (Go.bits .and .u32 (a0 / 128) 31)), .int .i64 0, .int .i64 0, .int .i32 t215] (0, 0) _ rfl (by (with_reducible repeat (first | refine blk_drewN ?_ _ | refine blk_drew ?_ | refine blk_alloc ?_ _)); refine blk_put (cs := #[.int .i64 x9_1, .int .i64 (wrap64 (Go.bits .and .u32 (a0 / 128) 31)), .int .i64 0, .int .i64 0, .int .i32 x212004_1]) ?_ 4 _ rfl; (with_reducible repeat (first | refine blk_drewN ?_ _ | refine blk_drew ?_ | refine blk_alloc ?_ _)); refine blk_put (cs := #[.int .i64 x9_1, .int .i64 (wrap64 (Go.bits .and .u32 (a0 / 128) 31)), .int .i64 0, .int .i64 x212003_1, .int .i32 x212004_1]) ?_ 3 _ rfl; (with_reducible repeat (first | refine blk_drewN ?_ _ | refine blk_drew ?_ | refine blk_alloc ?_ _)); refine blk_put (cs := #[.int .i64 x9_1, .int .i64 (wrap64 (Go.bits .and .u32 (a0 / 128) 31)), .int .i64 x212002_1, .int .i64 x212003_1, .int .i32 x212004_1]) ?_ 2 _ rfl; (with_reducible repeat (first | refine blk_drewN ?_ _ | refine blk_drew ?_ | refine blk_alloc ?_ _)); refine blk_put (cs := #[.int .i64 x9_1, .int .i64 x212001_1, .int .i64 x212002_1, .int .i64 x212003_1, .int .i32 x212004_1]) ?_ 1 _ rfl; (with_reducible repeat (first | refine blk_drewN ?_ _ | refine blk_drew ?_ | refine blk_alloc ?_ _)); refine blk_put (cs := #[.int .i64 x212000_1, .int .i64 x212001_1, .int .i64 x212002_1, .int .i64 x212003_1, .int .i32 x212004_1]) ?_ 0 _ rfl; (with_reducible repeat (first | refine blk_drewN ?_ _ | refine blk_drew ?_ | refine blk_alloc ?_ _)); exact BK211.out) Tryd.underlying25 rfl (by kernel_rfl)) rfl ?_
                      exact ⟨by first | rfl | (simp [errW_none, errW_some] <;> rfl) | (simp [*, errW_none, errW_some] <;> rfl), by repeat (first | (with_reducible first | exact HB.out | apply below_alloc | apply pw_below_drewN | apply below_drew1 | refine below_set ?_ GE211.out) | exact HB.out)⟩
                    · rw [if_neg c23] at H
                      have c23b0 : (x9_1 == 3) = false := beq_eq_false_iff_ne.mpr c23
                      have c23b1 : (x9_1 != 3) = true := bne_iff_ne.mpr c23
                      have HC26 := Aside0.mk H
                      clear H
                      go_upto_region 16 with (fail)
                      go_cut [107] (fun v107 wc => ∃ (kq : Nat) (x107_25 : Bool), v107 = .bool x107_25 ∧ Aside0 (tinctureref5_Decode.j2 kq a0 (wrap64 (Go.bits .and .u32 (a0 / 128) 31)) (wrap64 (Go.bits .and .u32 (a0 / 32768) 31)) (wrap64 (Go.bits .and .u32 (a0 / 1048576) 31)) x9_1 x107_25 = some (r1, r2, r3, r4, r5)) ∧ Aside0 (kq ≤ kj10) ∧ Aside0 (wc.heap[gb211]? = some (.cells #[.int .i64 x212000_1, .int .i64 x212001_1, .int .i64 x212002_1, .int .i64 x212003_1, .int .i32 x212004_1] 25 (0, 0))) ∧ Aside0 (Below w.heap.size w wc))
                      case first =>
                        have H := HC26.out
                        clear HC26
                        by_cases c27 : x9_1 = 4
                        · rw [if_pos c27] at H
                          have c27b0 : (x9_1 == 4) = true := beq_iff_eq.mpr c27
                          have c27b1 : (x9_1 != 4) = false := bne_eq_false_iff_eq.mpr c27
                          clear c27
                          (first | rw [c27b0] | (simp only [i64_w, i32_w]; rw [c27b0]) | skip)
                          have H' := Aside0.mk H
                          clear H
                          go_wp2
                          go_meet
                          case rel => exact ⟨_, (true), (by first | rfl | (simp; done) | (simp [*]; done)), H', ⟨by have := HK1.out; have := HJ10.out; first | omega | exact Nat.le_refl _⟩, ⟨by (with_reducible repeat (first | refine blk_drewN ?_ _ | refine blk_drew ?_ | refine blk_alloc ?_ _)); exact BK211.out⟩, ⟨by repeat (first | (with_reducible first | exact HB.out | apply below_alloc | apply pw_below_drewN | apply below_drew1 | refine below_set ?_ GE211.out) | exact HB.out)⟩⟩
                        · rw [if_neg c27] at H
                          have c27b0 : (x9_1 == 4) = false := beq_eq_false_iff_ne.mpr c27
                          have c27b1 : (x9_1 != 4) = true := bne_iff_ne.mpr c27
                          (first | rw [c27b0] | (simp only [i64_w, i32_w]; rw [c27b0]) | skip)
                          by_cases c28 : x9_1 ≥ 11
                          · rw [if_pos c28] at H
                            have c28b0 : decide (11 ≤ x9_1) = true := decide_eq_true c28
                            clear c28
                            by_cases c29 : x9_1 ≤ 15
                            · rw [if_pos c29] at H
                              have c29b0 : decide (x9_1 ≤ 15) = true := decide_eq_true c29
                              clear c29
                              have H' := Aside0.mk H
                              clear H
                              go_wp2
                              go_meet
                              case rel => exact ⟨_, (true), (by first | rfl | (simp; done) | (simp [*]; done)), H', ⟨by have := HK1.out; have := HJ10.out; first | omega | exact Nat.le_refl _⟩, ⟨by (with_reducible repeat (first | refine blk_drewN ?_ _ | refine blk_drew ?_ | refine blk_alloc ?_ _)); exact BK211.out⟩, ⟨by repeat (first | (with_reducible first | exact HB.out | apply below_alloc | apply pw_below_drewN | apply below_drew1 | refine below_set ?_ GE211.out) | exact HB.out)⟩⟩
                            · rw [if_neg c29] at H
                              have c29b0 : decide (x9_1 ≤ 15) = false := decide_eq_false c29
                              clear c29
                              by_cases c30 : x9_1 ≥ 19
                              · rw [if_pos c30] at H
                                have c30b0 : decide (19 ≤ x9_1) = true := decide_eq_true c30
                                clear c30
                                have H' := Aside0.mk H
                                clear H
                                go_wp2
                                go_meet
                                case rel => exact ⟨_, (decide (x9_1 ≤ 24)), (by first | rfl | (simp; done) | (simp [*]; done)), H', ⟨by have := HK1.out; have := HJ10.out; first | omega | exact Nat.le_refl _⟩, ⟨by (with_reducible repeat (first | refine blk_drewN ?_ _ | refine blk_drew ?_ | refine blk_alloc ?_ _)); exact BK211.out⟩, ⟨by repeat (first | (with_reducible first | exact HB.out | apply below_alloc | apply pw_below_drewN | apply below_drew1 | refine below_set ?_ GE211.out) | exact HB.out)⟩⟩
                              · rw [if_neg c30] at H
                                have c30b0 : decide (19 ≤ x9_1) = false := decide_eq_false c30
                                clear c30
                                have H' := Aside0.mk H
                                clear H
                                go_wp2
                                go_meet
                                case rel => exact ⟨_, (false), (by first | rfl | (simp; done) | (simp [*]; done)), H', ⟨by have := HK1.out; have := HJ10.out; first | omega | exact Nat.le_refl _⟩, ⟨by (with_reducible repeat (first | refine blk_drewN ?_ _ | refine blk_drew ?_ | refine blk_alloc ?_ _)); exact BK211.out⟩, ⟨by repeat (first | (with_reducible first | exact HB.out | apply below_alloc | apply pw_below_drewN | apply below_drew1 | refine below_set ?_ GE211.out) | exact HB.out)⟩⟩
                          · rw [if_neg c28] at H
                            have c28b0 : decide (11 ≤ x9_1) = false := decide_eq_false c28
                            clear c28
                            by_cases c31 : x9_1 ≥ 19
                            · rw [if_pos c31] at H
                              have c31b0 : decide (19 ≤ x9_1) = true := decide_eq_true c31
                              clear c31
                              have H' := Aside0.mk H
                              clear H
                              go_wp2
                              go_meet
                              case rel => exact ⟨_, (decide (x9_1 ≤ 24)), (by first | rfl | (simp; done) | (simp [*]; done)), H', ⟨by have := HK1.out; have := HJ10.out; first | omega | exact Nat.le_refl _⟩, ⟨by (with_reducible repeat (first | refine blk_drewN ?_ _ | refine blk_drew ?_ | refine blk_alloc ?_ _)); exact BK211.out⟩, ⟨by repeat (first | (with_reducible first | exact HB.out | apply below_alloc | apply pw_below_drewN | apply below_drew1 | refine below_set ?_ GE211.out) | exact HB.out)⟩⟩
                            · rw [if_neg c31] at H
                              have c31b0 : decide (19 ≤ x9_1) = false := decide_eq_false c31
                              clear c31
                              have H' := Aside0.mk H
                              clear H
                              go_wp2
                              go_meet
                              case rel => exact ⟨_, (false), (by first | rfl | (simp; done) | (simp [*]; done)), H', ⟨by have := HK1.out; have := HJ10.out; first | omega | exact Nat.le_refl _⟩, ⟨by (with_reducible repeat (first | refine blk_drewN ?_ _ | refine blk_drew ?_ | refine blk_alloc ?_ _)); exact BK211.out⟩, ⟨by repeat (first | (with_reducible first | exact HB.out | apply below_alloc | apply pw_below_drewN | apply below_drew1 | refine below_set ?_ GE211.out) | exact HB.out)⟩⟩
                      case rest =>
                        clear HC26
                        try clear c1
                        try clear c2
                        try clear c2b0
                        try clear c2b1
                        try clear p2
                        try clear c3
                        try clear p3
                        try clear c5
                        try clear c5b0
                        try clear c5b1
                        try clear p6
                        try clear c9
                        try clear c9b0
                        try clear c13
                        try clear c13b0
                        try clear c13b1
                        try clear c14
                        try clear c14b0
                        try clear c15
                        try clear c15b0
                        try clear c15b1
                        try clear c16
                        try clear c16b0
                        try clear c17
                        try clear c17b0
                        try clear c18
                        try clear c18b0
                        try clear c19
                        try clear c19b0
                        try clear c20
                        try clear c21
                        try clear c21b0
                        try clear c23
                        try clear c23b0
                        try clear c23b1
                        try clear c27
                        try clear c27b0
                        try clear c27b1
                        try clear c28
                        try clear c28b0
                        try clear c29
                        try clear c29b0
                        try clear c30
                        try clear c30b0
                        try clear c31
                        try clear c31b0
                        try clear hcz22_0
                        try clear hcz22_1
                        try clear hcz22_2
                        try clear hcz22_3
                        try clear hcz22_4
                        try clear hcz25_0
                        try clear hcz25_1
                        try clear hcz25_2
                        try clear hcz25_3
                        try clear hcz25_4
                        try clear hcz4_0
                        try clear hcz4_1
                        try clear hcz4_2
                        try clear hcz4_3
                        try clear hcz4_4
                        try clear hcz7_0
                        try clear hcz7_1
                        try clear hcz7_2
                        try clear hcz7_3
                        try clear hcz7_4
                        try clear hfz22_0
                        try clear hfz22_1
                        try clear hfz22_2
                        try clear hfz22_3
                        try clear hfz22_4
                        try clear hfz25_0
                        try clear hfz25_1
                        try clear hfz25_2
                        try clear hfz25_3
                        try clear hfz25_4
                        try clear hfz4_0
                        try clear hfz4_1
                        try clear hfz4_2
                        try clear hfz4_3
                        try clear hfz4_4
                        try clear hfz7_0
                        try clear hfz7_1
                        try clear hfz7_2
                        try clear hfz7_3
                        try clear hfz7_4
                        try clear p2
                        try clear p6
                        obtain ⟨kq, x107_25, rfl, HA, HJ25, BK211, HB⟩ := hcut
                        cases kq with
                        | zero => exact absurd HA.out (by simp [tinctureref5_Decode.j2])
                        | succ kj25 =>
                          have H := HA.out
                          clear HA
                          simp only [tinctureref5_Decode.j2] at H
                          by_cases c32 : x107_25 = true
                          · subst c32
                            have H1 : ((tinctureref5_signed.f (a0 / 1048576) 12).bind fun t216 => (some (x9_1, (wrap64 (Go.bits .and .u32 (a0 / 128) 31)), (wrap64 (Go.bits .and .u32 (a0 / 32768) 31)), 0, t216))) = some (r1, r2, r3, r4, r5) := by rw [if_pos rfl] at H; exact H
                            clear H
                            have H := H1
                            clear H1
                            replace H := Option.bind_eq_some_iff.mp H
                            obtain ⟨t216, A330, H⟩ := H
                            replace H : (some (x9_1, (wrap64 (Go.bits .and .u32 (a0 / 128) 31)), (wrap64 (Go.bits .and .u32 (a0 / 32768) 31)), 0, t216)) = some (r1, r2, r3, r4, r5) := H
                            have A33 := Aside0.mk A330
                            clear A330
                            simp only [Option.some.injEq, Prod.mk.injEq] at H
                            obtain ⟨rfl, rfl, rfl, rfl, rfl⟩ := H
                            go_wp2_with (first | ((with_reducible refine gate_callee (f := 30) rfl ?_); refine goesL_ (some 131) rfl rfl Tryd.func30 (by kernel_rfl) rfl #[.int .u32 (a0 / 1048576), .int .u64 12] rfl (by (try simp only [List.map_toArray, List.map_cons, List.map_nil]); first | done | rfl | (simp only [List.length_drop, List.length_take]; rfl)) ?_; (with_reducible refine (tinctureref5_signed.calls (a0 / 1048576) 12 t216 _ A33.out).mono ?_); rintro e w' ⟨rfl, ⟨nd, rfl⟩⟩; refine ⟨_, rfl, ?_⟩; (try (rw [drewN_self wc]; generalize hq_ : World.drewN wc _ = wc; have n0_ : Aside0 (wc.heap[gb211]? = some (.cells #[.int .i64 x212000_1, .int .i64 x212001_1, .int .i64 x212002_1, .int .i64 x212003_1, .int .i32 x212004_1] 25 (0, 0))) := ⟨by rw [← hq_]; exact (by (with_reducible repeat (first | refine blk_drewN ?_ _ | refine blk_drew ?_ | refine blk_alloc ?_ _)); exact BK211.out)⟩; have n1_ : Aside0 (Below w.heap.size w wc) := ⟨by rw [← hq_]; exact (by repeat (first | (with_reducible first | exact HB.out | apply below_alloc | apply pw_below_drewN | apply below_drew1 | refine below_set ?_ GE211.out) | exact HB.out))⟩; clear BK211 HB hq_; have BK211 := n0_; have HB := n1_; clear n0_ n1_)); have hcz34_0 : wc.cell? ⟨gb211, 0, none⟩ = some (.int .i64 x212000_1) := (blk_cell BK211.out 0).trans rfl; have hcz34_1 : wc.cell? ⟨gb211, 1, none⟩ = some (.int .i64 x212001_1) := (blk_cell BK211.out 1).trans rfl; have hcz34_2 : wc.cell? ⟨gb211, 2, none⟩ = some (.int .i64 x212002_1) := (blk_cell BK211.out 2).trans rfl; have hcz34_3 : wc.cell? ⟨gb211, 3, none⟩ = some (.int .i64 x212003_1) := (blk_cell BK211.out 3).trans rfl; have hcz34_4 : wc.cell? ⟨gb211, 4, none⟩ = some (.int .i32 x212004_1) := (blk_cell BK211.out 4).trans rfl; have hfz34_0 := blk_frozen BK211.out 0; have hfz34_1 := blk_frozen BK211.out 1; have hfz34_2 := blk_frozen BK211.out 2; have hfz34_3 := blk_frozen BK211.out 3; have hfz34_4 := blk_frozen BK211.out 4))
                            refine bodyPost_ret (results_cell_row rfl _ _ gb211 25 #[.int .i64 x9_1, .int .i64 (wrap64 (Go.bits .and .u32 (a0 / 128) 31)), .int .i64 (wrap64 (Go.bits .and .u32 (a0 / 32768) 31)), .int .i64 0, .int .i32 t216] (0, 0) _ rfl (by (with_reducible repeat (first | refine blk_drewN ?_ _ | refine blk_drew ?_ | refine blk_alloc ?_ _)); refine blk_put (cs := #[.int .i64 x9_1, .int .i64 (wrap64 (Go.bits .and .u32 (a0 / 128) 31)), .int .i64 (wrap64 (Go.bits .and .u32 (a0 / 32768) 31)), .int .i64 0, .int .i32 x212004_1]) ?_ 4 _ rfl; (with_reducible repeat (first | refine blk_drewN ?_ _ | refine blk_drew ?_ | refine blk_alloc ?_ _)); refine blk_put (cs := #[.int .i64 x9_1, .int .i64 (wrap64 (Go.bits .and .u32 (a0 / 128) 31)), .int .i64 (wrap64 (Go.bits .and .u32 (a0 / 32768) 31)), .int .i64 x212003_1, .int .i32 x212004_1]) ?_ 3 _ rfl; (with_reducible repeat (first | refine blk_drewN ?_ _ | refine blk_drew ?_ | refine blk_alloc ?_ _)); refine blk_put (cs := #[.int .i64 x9_1, .int .i64 (wrap64 (Go.bits .and .u32 (a0 / 128) 31)), .int .i64 x212002_1, .int .i64 x212003_1, .int .i32 x212004_1]) ?_ 2 _ rfl; (with_reducible repeat (first | refine blk_drewN ?_ _ | refine blk_drew ?_ | refine blk_alloc ?_ _)); refine blk_put (cs := #[.int .i64 x9_1, .int .i64 x212001_1, .int .i64 x212002_1, .int .i64 x212003_1, .int .i32 x212004_1]) ?_ 1 _ rfl; (with_reducible repeat (first | refine blk_drewN ?_ _ | refine blk_drew ?_ | refine blk_alloc ?_ _)); refine blk_put (cs := #[.int .i64 x212000_1, .int .i64 x212001_1, .int .i64 x212002_1, .int .i64 x212003_1, .int .i32 x212004_1]) ?_ 0 _ rfl; (with_reducible repeat (first | refine blk_drewN ?_ _ | refine blk_drew ?_ | refine blk_alloc ?_ _)); exact BK211.out) Tryd.underlying25 rfl (by kernel_rfl)) rfl ?_
                            exact ⟨by first | rfl | (simp [errW_none, errW_some] <;> rfl) | (simp [*, errW_none, errW_some] <;> rfl), by repeat (first | (with_reducible first | exact HB.out | apply below_alloc | apply pw_below_drewN | apply below_drew1 | refine below_set ?_ GE211.out) | exact HB.out)⟩
                          · replace c32 := Bool.eq_false_iff.mpr c32
                            subst c32
                            have H1 : (if x9_1 ≤ 10 then ((tinctureref5_signed.f (Go.bits .or .u32 (Go.bits .or .u32 (Go.bits .or .u32 (((a0 / 2147483648) * 4096) % 4294967296) (((Go.bits .and .u32 (a0 / 128) 1) * 2048) % 4294967296)) (((Go.bits .and .u32 (a0 / 33554432) 63) * 32) % 4294967296)) (((Go.bits .and .u32 (a0 / 256) 15) * 2) % 4294967296)) 13).bind fun t217 => (some (x9_1, 0, (wrap64 (Go.bits .and .u32 (a0 / 32768) 31)), (wrap64 (Go.bits .and .u32 (a0 / 1048576) 31)), t217))) else (if x9_1 ≤ 18 then ((tinctureref5_signed.f (Go.bits .or .u32 (((a0 / 33554432) * 32) % 4294967296) (Go.bits .and .u32 (a0 / 128) 31)) 12).bind fun t218 => (some (x9_1, 0, (wrap64 (Go.bits .and .u32 (a0 / 32768) 31)), (wrap64 (Go.bits .and .u32 (a0 / 1048576) 31)), t218))) else (if x9_1 ≤ 27 then (some (x9_1, (wrap64 (Go.bits .and .u32 (a0 / 128) 31)), (wrap64 (Go.bits .and .u32 (a0 / 32768) 31)), 0, wrap32 ((wrap64 (Go.bits .and .u32 (a0 / 1048576) 31))))) else (if x9_1 ≤ 45 then (some (x9_1, (wrap64 (Go.bits .and .u32 (a0 / 128) 31)), (wrap64 (Go.bits .and .u32 (a0 / 32768) 31)), (wrap64 (Go.bits .and .u32 (a0 / 1048576) 31)), 0)) else (some (x9_1, 0, 0, 0, 0)))))) = some (r1, r2, r3, r4, r5) := by rw [if_neg (show ¬ (false = true) by decide)] at H; exact H
                            clear H
                            have H := H1
                            clear H1
                            by_cases c35 : x9_1 ≤ 10
                            · rw [if_pos c35] at H
                              have c35b0 : decide (x9_1 ≤ 10) = true := decide_eq_true c35
                              clear c35
                              replace H := Option.bind_eq_some_iff.mp H
                              obtain ⟨t217, A360, H⟩ := H
                              replace H : (some (x9_1, 0, (wrap64 (Go.bits .and .u32 (a0 / 32768) 31)), (wrap64 (Go.bits .and .u32 (a0 / 1048576) 31)), t217)) = some (r1, r2, r3, r4, r5) := H
                              have A36 := Aside0.mk A360
                              clear A360
                              simp only [Option.some.injEq, Prod.mk.injEq] at H
                              obtain ⟨rfl, rfl, rfl, rfl, rfl⟩ := H
                              go_wp2_with (first | ((with_reducible refine gate_callee (f := 30) rfl ?_); refine goesL_ (some 157) rfl rfl Tryd.func30 (by kernel_rfl) rfl #[.int .u32 (Go.bits .or .u32 (Go.bits .or .u32 (Go.bits .or .u32 (((a0 / 2147483648) * 4096) % 4294967296) (((Go.bits .and .u32 (a0 / 128) 1) * 2048) % 4294967296)) (((Go.bits .and .u32 (a0 / 33554432) 63) * 32) % 4294967296)) (((Go.bits .and .u32 (a0 / 256) 15) * 2) % 4294967296)), .int .u64 13] rfl (by (try simp only [List.map_toArray, List.map_cons, List.map_nil]); first | done | rfl | (simp only [List.length_drop, List.length_take]; rfl)) ?_; (with_reducible refine (tinctureref5_signed.calls (Go.bits .or .u32 (Go.bits .or .u32 (Go.bits .or .u32 (((a0 / 2147483648) * 4096) % 4294967296) (((Go.bits .and .u32 (a0 / 128) 1) * 2048) % 4294967296)) (((Go.bits .and .u32 (a0 / 33554432) 63) * 32) % 4294967296)) (((Go.bits .and .u32 (a0 / 256) 15) * 2) % 4294967296)) 13 t217 _ A36.out).mono ?_); rintro e w' ⟨rfl, ⟨nd, rfl⟩⟩; refine ⟨_, rfl, ?_⟩; (try (rw [drewN_self wc]; generalize hq_ : World.drewN wc _ = wc; have n0_ : Aside0 (wc.heap[gb211]? = some (.cells #[.int .i64 x212000_1, .int .i64 x212001_1, .int .i64 x212002_1, .int .i64 x212003_1, .int .i32 x212004_1] 25 (0, 0))) := ⟨by rw [← hq_]; exact (by (with_reducible repeat (first | refine blk_drewN ?_ _ | refine blk_drew ?_ | refine blk_alloc ?_ _)); exact BK211.out)⟩; have n1_ : Aside0 (Below w.heap.size w wc) := ⟨by rw [← hq_]; exact (by repeat (first | (with_reducible first | exact HB.out | apply below_alloc | apply pw_below_drewN | apply below_drew1 | refine below_set ?_ GE211.out) | exact HB.out))⟩; clear BK211 HB hq_; have BK211 := n0_; have HB := n1_; clear n0_ n1_)); have hcz37_0 : wc.cell? ⟨gb211, 0, none⟩ = some (.int .i64 x212000_1) := (blk_cell BK211.out 0).trans rfl; have hcz37_1 : wc.cell? ⟨gb211, 1, none⟩ = some (.int .i64 x212001_1) := (blk_cell BK211.out 1).trans rfl; have hcz37_2 : wc.cell? ⟨gb211, 2, none⟩ = some (.int .i64 x212002_1) := (blk_cell BK211.out 2).trans rfl; have hcz37_3 : wc.cell? ⟨gb211, 3, none⟩ = some (.int .i64 x212003_1) := (blk_cell BK211.out 3).trans rfl; have hcz37_4 : wc.cell? ⟨gb211, 4, none⟩ = some (.int .i32 x212004_1) := (blk_cell BK211.out 4).trans rfl; have hfz37_0 := blk_frozen BK211.out 0; have hfz37_1 := blk_frozen BK211.out 1; have hfz37_2 := blk_frozen BK211.out 2; have hfz37_3 := blk_frozen BK211.out 3; have hfz37_4 := blk_frozen BK211.out 4))
                              refine bodyPost_ret (results_cell_row rfl _ _ gb211 25 #[.int .i64 x9_1, .int .i64 0, .int .i64 (wrap64 (Go.bits .and .u32 (a0 / 32768) 31)), .int .i64 (wrap64 (Go.bits .and .u32 (a0 / 1048576) 31)), .int .i32 t217] (0, 0) _ rfl (by (with_reducible repeat (first | refine blk_drewN ?_ _ | refine blk_drew ?_ | refine blk_alloc ?_ _)); refine blk_put (cs := #[.int .i64 x9_1, .int .i64 0, .int .i64 (wrap64 (Go.bits .and .u32 (a0 / 32768) 31)), .int .i64 (wrap64 (Go.bits .and .u32 (a0 / 1048576) 31)), .int .i32 x212004_1]) ?_ 4 _ rfl; (with_reducible repeat (first | refine blk_drewN ?_ _ | refine blk_drew ?_ | refine blk_alloc ?_ _)); refine blk_put (cs := #[.int .i64 x9_1, .int .i64 0, .int .i64 (wrap64 (Go.bits .and .u32 (a0 / 32768) 31)), .int .i64 x212003_1, .int .i32 x212004_1]) ?_ 3 _ rfl; (with_reducible repeat (first | refine blk_drewN ?_ _ | refine blk_drew ?_ | refine blk_alloc ?_ _)); refine blk_put (cs := #[.int .i64 x9_1, .int .i64 0, .int .i64 x212002_1, .int .i64 x212003_1, .int .i32 x212004_1]) ?_ 2 _ rfl; (with_reducible repeat (first | refine blk_drewN ?_ _ | refine blk_drew ?_ | refine blk_alloc ?_ _)); refine blk_put (cs := #[.int .i64 x9_1, .int .i64 x212001_1, .int .i64 x212002_1, .int .i64 x212003_1, .int .i32 x212004_1]) ?_ 1 _ rfl; (with_reducible repeat (first | refine blk_drewN ?_ _ | refine blk_drew ?_ | refine blk_alloc ?_ _)); refine blk_put (cs := #[.int .i64 x212000_1, .int .i64 x212001_1, .int .i64 x212002_1, .int .i64 x212003_1, .int .i32 x212004_1]) ?_ 0 _ rfl; (with_reducible repeat (first | refine blk_drewN ?_ _ | refine blk_drew ?_ | refine blk_alloc ?_ _)); exact BK211.out) Tryd.underlying25 rfl (by kernel_rfl)) rfl ?_
                              exact ⟨by first | rfl | (simp [errW_none, errW_some] <;> rfl) | (simp [*, errW_none, errW_some] <;> rfl), by repeat (first | (with_reducible first | exact HB.out | apply below_alloc | apply pw_below_drewN | apply below_drew1 | refine below_set ?_ GE211.out) | exact HB.out)⟩
                            · rw [if_neg c35] at H
                              have c35b0 : decide (x9_1 ≤ 10) = false := decide_eq_false c35
                              clear c35
                              by_cases c38 : x9_1 ≤ 18
                              · rw [if_pos c38] at H
                                have c38b0 : decide (x9_1 ≤ 18) = true := decide_eq_true c38
                                clear c38
                                replace H := Option.bind_eq_some_iff.mp H
                                obtain ⟨t218, A390, H⟩ := H
                                replace H : (some (x9_1, 0, (wrap64 (Go.bits .and .u32 (a0 / 32768) 31)), (wrap64 (Go.bits .and .u32 (a0 / 1048576) 31)), t218)) = some (r1, r2, r3, r4, r5) := H
                                have A39 := Aside0.mk A390
                                clear A390
                                simp only [Option.some.injEq, Prod.mk.injEq] at H
                                obtain ⟨rfl, rfl, rfl, rfl, rfl⟩ := H
                                go_wp2_with (first | ((with_reducible refine gate_callee (f := 30) rfl ?_); refine goesL_ (some 172) rfl rfl Tryd.func30 (by kernel_rfl) rfl #[.int .u32 (Go.bits .or .u32 (((a0 / 33554432) * 32) % 4294967296) (Go.bits .and .u32 (a0 / 128) 31)), .int .u64 12] rfl (by (try simp only [List.map_toArray, List.map_cons, List.map_nil]); first | done | rfl | (simp only [List.length_drop, List.length_take]; rfl)) ?_; (with_reducible refine (tinctureref5_signed.calls (Go.bits .or .u32 (((a0 / 33554432) * 32) % 4294967296) (Go.bits .and .u32 (a0 / 128) 31)) 12 t218 _ A39.out).mono ?_); rintro e w' ⟨rfl, ⟨nd, rfl⟩⟩; refine ⟨_, rfl, ?_⟩; (try (rw [drewN_self wc]; generalize hq_ : World.drewN wc _ = wc; have n0_ : Aside0 (wc.heap[gb211]? = some (.cells #[.int .i64 x212000_1, .int .i64 x212001_1, .int .i64 x212002_1, .int .i64 x212003_1, .int .i32 x212004_1] 25 (0, 0))) := ⟨by rw [← hq_]; exact (by (with_reducible repeat (first | refine blk_drewN ?_ _ | refine blk_drew ?_ | refine blk_alloc ?_ _)); exact BK211.out)⟩; have n1_ : Aside0 (Below w.heap.size w wc) := ⟨by rw [← hq_]; exact (by repeat (first | (with_reducible first | exact HB.out | apply below_alloc | apply pw_below_drewN | apply below_drew1 | refine below_set ?_ GE211.out) | exact HB.out))⟩; clear BK211 HB hq_; have BK211 := n0_; have HB := n1_; clear n0_ n1_)); have hcz40_0 : wc.cell? ⟨gb211, 0, none⟩ = some (.int .i64 x212000_1) := (blk_cell BK211.out 0).trans rfl; have hcz40_1 : wc.cell? ⟨gb211, 1, none⟩ = some (.int .i64 x212001_1) := (blk_cell BK211.out 1).trans rfl; have hcz40_2 : wc.cell? ⟨gb211, 2, none⟩ = some (.int .i64 x212002_1) := (blk_cell BK211.out 2).trans rfl; have hcz40_3 : wc.cell? ⟨gb211, 3, none⟩ = some (.int .i64 x212003_1) := (blk_cell BK211.out 3).trans rfl; have hcz40_4 : wc.cell? ⟨gb211, 4, none⟩ = some (.int .i32 x212004_1) := (blk_cell BK211.out 4).trans rfl; have hfz40_0 := blk_frozen BK211.out 0; have hfz40_1 := blk_frozen BK211.out 1; have hfz40_2 := blk_frozen BK211.out 2; have hfz40_3 := blk_frozen BK211.out 3; have hfz40_4 := blk_frozen BK211.out 4))
                                refine bodyPost_ret (results_cell_row rfl _ _ gb211 25 #[.int .i64 x9_1, .int .i64 0, .int .i64 (wrap64 (Go.bits .and .u32 (a0 / 32768) 31)), .int .i64 (wrap64 (Go.bits .and .u32 (a0 / 1048576) 31)), .int .i32 t218] (0, 0) _ rfl (by (with_reducible repeat (first | refine blk_drewN ?_ _ | refine blk_drew ?_ | refine blk_alloc ?_ _)); refine blk_put (cs := #[.int .i64 x9_1, .int .i64 0, .int .i64 (wrap64 (Go.bits .and .u32 (a0 / 32768) 31)), .int .i64 (wrap64 (Go.bits .and .u32 (a0 / 1048576) 31)), .int .i32 x212004_1]) ?_ 4 _ rfl; (with_reducible repeat (first | refine blk_drewN ?_ _ | refine blk_drew ?_ | refine blk_alloc ?_ _)); refine blk_put (cs := #[.int .i64 x9_1, .int .i64 0, .int .i64 (wrap64 (Go.bits .and .u32 (a0 / 32768) 31)), .int .i64 x212003_1, .int .i32 x212004_1]) ?_ 3 _ rfl; (with_reducible repeat (first | refine blk_drewN ?_ _ | refine blk_drew ?_ | refine blk_alloc ?_ _)); refine blk_put (cs := #[.int .i64 x9_1, .int .i64 0, .int .i64 x212002_1, .int .i64 x212003_1, .int .i32 x212004_1]) ?_ 2 _ rfl; (with_reducible repeat (first | refine blk_drewN ?_ _ | refine blk_drew ?_ | refine blk_alloc ?_ _)); refine blk_put (cs := #[.int .i64 x9_1, .int .i64 x212001_1, .int .i64 x212002_1, .int .i64 x212003_1, .int .i32 x212004_1]) ?_ 1 _ rfl; (with_reducible repeat (first | refine blk_drewN ?_ _ | refine blk_drew ?_ | refine blk_alloc ?_ _)); refine blk_put (cs := #[.int .i64 x212000_1, .int .i64 x212001_1, .int .i64 x212002_1, .int .i64 x212003_1, .int .i32 x212004_1]) ?_ 0 _ rfl; (with_reducible repeat (first | refine blk_drewN ?_ _ | refine blk_drew ?_ | refine blk_alloc ?_ _)); exact BK211.out) Tryd.underlying25 rfl (by kernel_rfl)) rfl ?_
                                exact ⟨by first | rfl | (simp [errW_none, errW_some] <;> rfl) | (simp [*, errW_none, errW_some] <;> rfl), by repeat (first | (with_reducible first | exact HB.out | apply below_alloc | apply pw_below_drewN | apply below_drew1 | refine below_set ?_ GE211.out) | exact HB.out)⟩
                              · rw [if_neg c38] at H
                                have c38b0 : decide (x9_1 ≤ 18) = false := decide_eq_false c38
                                clear c38
                                by_cases c41 : x9_1 ≤ 27
                                · rw [if_pos c41] at H
                                  have c41b0 : decide (x9_1 ≤ 27) = true := decide_eq_true c41
                                  clear c41
                                  simp only [Option.some.injEq, Prod.mk.injEq] at H
                                  obtain ⟨rfl, rfl, rfl, rfl, rfl⟩ := H
                                  have hcz42_0 : wc.cell? ⟨gb211, 0, none⟩ = some (.int .i64 x212000_1) := (blk_cell BK211.out 0).trans rfl
                                  have hcz42_1 : wc.cell? ⟨gb211, 1, none⟩ = some (.int .i64 x212001_1) := (blk_cell BK211.out 1).trans rfl
                                  have hcz42_2 : wc.cell? ⟨gb211, 2, none⟩ = some (.int .i64 x212002_1) := (blk_cell BK211.out 2).trans rfl
                                  have hcz42_3 : wc.cell? ⟨gb211, 3, none⟩ = some (.int .i64 x212003_1) := (blk_cell BK211.out 3).trans rfl
                                  have hcz42_4 : wc.cell? ⟨gb211, 4, none⟩ = some (.int .i32 x212004_1) := (blk_cell BK211.out 4).trans rfl
                                  have hfz42_0 := blk_frozen BK211.out 0
                                  have hfz42_1 := blk_frozen BK211.out 1
                                  have hfz42_2 := blk_frozen BK211.out 2
                                  have hfz42_3 := blk_frozen BK211.out 3
                                  have hfz42_4 := blk_frozen BK211.out 4
                                  go_wp2
                                  refine bodyPost_ret (results_cell_row rfl _ _ gb211 25 #[.int .i64 x9_1, .int .i64 (wrap64 (Go.bits .and .u32 (a0 / 128) 31)), .int .i64 (wrap64 (Go.bits .and .u32 (a0 / 32768) 31)), .int .i64 0, .int .i32 (wrap32 ((wrap64 (Go.bits .and .u32 (a0 / 1048576) 31))))] (0, 0) _ rfl (by (with_reducible repeat (first | refine blk_drewN ?_ _ | refine blk_drew ?_ | refine blk_alloc ?_ _)); refine blk_put (cs := #[.int .i64 x9_1, .int .i64 (wrap64 (Go.bits .and .u32 (a0 / 128) 31)), .int .i64 (wrap64 (Go.bits .and .u32 (a0 / 32768) 31)), .int .i64 0, .int .i32 x212004_1]) ?_ 4 _ rfl; (with_reducible repeat (first | refine blk_drewN ?_ _ | refine blk_drew ?_ | refine blk_alloc ?_ _)); refine blk_put (cs := #[.int .i64 x9_1, .int .i64 (wrap64 (Go.bits .and .u32 (a0 / 128) 31)), .int .i64 (wrap64 (Go.bits .and .u32 (a0 / 32768) 31)), .int .i64 x212003_1, .int .i32 x212004_1]) ?_ 3 _ rfl; (with_reducible repeat (first | refine blk_drewN ?_ _ | refine blk_drew ?_ | refine blk_alloc ?_ _)); refine blk_put (cs := #[.int .i64 x9_1, .int .i64 (wrap64 (Go.bits .and .u32 (a0 / 128) 31)), .int .i64 x212002_1, .int .i64 x212003_1, .int .i32 x212004_1]) ?_ 2 _ rfl; (with_reducible repeat (first | refine blk_drewN ?_ _ | refine blk_drew ?_ | refine blk_alloc ?_ _)); refine blk_put (cs := #[.int .i64 x9_1, .int .i64 x212001_1, .int .i64 x212002_1, .int .i64 x212003_1, .int .i32 x212004_1]) ?_ 1 _ rfl; (with_reducible repeat (first | refine blk_drewN ?_ _ | refine blk_drew ?_ | refine blk_alloc ?_ _)); refine blk_put (cs := #[.int .i64 x212000_1, .int .i64 x212001_1, .int .i64 x212002_1, .int .i64 x212003_1, .int .i32 x212004_1]) ?_ 0 _ rfl; (with_reducible repeat (first | refine blk_drewN ?_ _ | refine blk_drew ?_ | refine blk_alloc ?_ _)); exact BK211.out) Tryd.underlying25 rfl (by kernel_rfl)) rfl ?_
                                  exact ⟨by first | rfl | (simp [errW_none, errW_some] <;> rfl) | (simp [*, errW_none, errW_some] <;> rfl), by repeat (first | (with_reducible first | exact HB.out | apply below_alloc | apply pw_below_drewN | apply below_drew1 | refine below_set ?_ GE211.out) | exact HB.out)⟩
                                · rw [if_neg c41] at H
                                  have c41b0 : decide (x9_1 ≤ 27) = false := decide_eq_false c41
                                  clear c41
                                  by_cases c43 : x9_1 ≤ 45
                                  · rw [if_pos c43] at H
                                    have c43b0 : decide (x9_1 ≤ 45) = true := decide_eq_true c43
                                    clear c43
                                    simp only [Option.some.injEq, Prod.mk.injEq] at H
                                    obtain ⟨rfl, rfl, rfl, rfl, rfl⟩ := H
                                    have hcz44_0 : wc.cell? ⟨gb211, 0, none⟩ = some (.int .i64 x212000_1) := (blk_cell BK211.out 0).trans rfl
                                    have hcz44_1 : wc.cell? ⟨gb211, 1, none⟩ = some (.int .i64 x212001_1) := (blk_cell BK211.out 1).trans rfl
                                    have hcz44_2 : wc.cell? ⟨gb211, 2, none⟩ = some (.int .i64 x212002_1) := (blk_cell BK211.out 2).trans rfl
                                    have hcz44_3 : wc.cell? ⟨gb211, 3, none⟩ = some (.int .i64 x212003_1) := (blk_cell BK211.out 3).trans rfl
                                    have hcz44_4 : wc.cell? ⟨gb211, 4, none⟩ = some (.int .i32 x212004_1) := (blk_cell BK211.out 4).trans rfl
                                    have hfz44_0 := blk_frozen BK211.out 0
                                    have hfz44_1 := blk_frozen BK211.out 1
                                    have hfz44_2 := blk_frozen BK211.out 2
                                    have hfz44_3 := blk_frozen BK211.out 3
                                    have hfz44_4 := blk_frozen BK211.out 4
                                    go_wp2
                                    refine bodyPost_ret (results_cell_row rfl _ _ gb211 25 #[.int .i64 x9_1, .int .i64 (wrap64 (Go.bits .and .u32 (a0 / 128) 31)), .int .i64 (wrap64 (Go.bits .and .u32 (a0 / 32768) 31)), .int .i64 (wrap64 (Go.bits .and .u32 (a0 / 1048576) 31)), .int .i32 0] (0, 0) _ rfl (by (with_reducible repeat (first | refine blk_drewN ?_ _ | refine blk_drew ?_ | refine blk_alloc ?_ _)); refine blk_put (cs := #[.int .i64 x9_1, .int .i64 (wrap64 (Go.bits .and .u32 (a0 / 128) 31)), .int .i64 (wrap64 (Go.bits .and .u32 (a0 / 32768) 31)), .int .i64 (wrap64 (Go.bits .and .u32 (a0 / 1048576) 31)), .int .i32 x212004_1]) ?_ 4 _ rfl; (with_reducible repeat (first | refine blk_drewN ?_ _ | refine blk_drew ?_ | refine blk_alloc ?_ _)); refine blk_put (cs := #[.int .i64 x9_1, .int .i64 (wrap64 (Go.bits .and .u32 (a0 / 128) 31)), .int .i64 (wrap64 (Go.bits .and .u32 (a0 / 32768) 31)), .int .i64 x212003_1, .int .i32 x212004_1]) ?_ 3 _ rfl; (with_reducible repeat (first | refine blk_drewN ?_ _ | refine blk_drew ?_ | refine blk_alloc ?_ _)); refine blk_put (cs := #[.int .i64 x9_1, .int .i64 (wrap64 (Go.bits .and .u32 (a0 / 128) 31)), .int .i64 x212002_1, .int .i64 x212003_1, .int .i32 x212004_1]) ?_ 2 _ rfl; (with_reducible repeat (first | refine blk_drewN ?_ _ | refine blk_drew ?_ | refine blk_alloc ?_ _)); refine blk_put (cs := #[.int .i64 x9_1, .int .i64 x212001_1, .int .i64 x212002_1, .int .i64 x212003_1, .int .i32 x212004_1]) ?_ 1 _ rfl; (with_reducible repeat (first | refine blk_drewN ?_ _ | refine blk_drew ?_ | refine blk_alloc ?_ _)); refine blk_put (cs := #[.int .i64 x212000_1, .int .i64 x212001_1, .int .i64 x212002_1, .int .i64 x212003_1, .int .i32 x212004_1]) ?_ 0 _ rfl; (with_reducible repeat (first | refine blk_drewN ?_ _ | refine blk_drew ?_ | refine blk_alloc ?_ _)); exact BK211.out) Tryd.underlying25 rfl (by kernel_rfl)) rfl ?_
                                    exact ⟨by first | rfl | (simp [errW_none, errW_some] <;> rfl) | (simp [*, errW_none, errW_some] <;> rfl), by repeat (first | (with_reducible first | exact HB.out | apply below_alloc | apply pw_below_drewN | apply below_drew1 | refine below_set ?_ GE211.out) | exact HB.out)⟩
                                  · rw [if_neg c43] at H
                                    have c43b0 : decide (x9_1 ≤ 45) = false := decide_eq_false c43
                                    clear c43
                                    simp only [Option.some.injEq, Prod.mk.injEq] at H
                                    obtain ⟨rfl, rfl, rfl, rfl, rfl⟩ := H
                                    have hcz45_0 : wc.cell? ⟨gb211, 0, none⟩ = some (.int .i64 x212000_1) := (blk_cell BK211.out 0).trans rfl
                                    have hcz45_1 : wc.cell? ⟨gb211, 1, none⟩ = some (.int .i64 x212001_1) := (blk_cell BK211.out 1).trans rfl
                                    have hcz45_2 : wc.cell? ⟨gb211, 2, none⟩ = some (.int .i64 x212002_1) := (blk_cell BK211.out 2).trans rfl
                                    have hcz45_3 : wc.cell? ⟨gb211, 3, none⟩ = some (.int .i64 x212003_1) := (blk_cell BK211.out 3).trans rfl
                                    have hcz45_4 : wc.cell? ⟨gb211, 4, none⟩ = some (.int .i32 x212004_1) := (blk_cell BK211.out 4).trans rfl
                                    have hfz45_0 := blk_frozen BK211.out 0
                                    have hfz45_1 := blk_frozen BK211.out 1
                                    have hfz45_2 := blk_frozen BK211.out 2
                                    have hfz45_3 := blk_frozen BK211.out 3
                                    have hfz45_4 := blk_frozen BK211.out 4
                                    go_wp2
                                    refine bodyPost_ret (results_cell_row rfl _ _ gb211 25 #[.int .i64 x9_1, .int .i64 0, .int .i64 0, .int .i64 0, .int .i32 0] (0, 0) _ rfl (by (with_reducible repeat (first | refine blk_drewN ?_ _ | refine blk_drew ?_ | refine blk_alloc ?_ _)); refine blk_put (cs := #[.int .i64 x9_1, .int .i64 0, .int .i64 0, .int .i64 0, .int .i32 x212004_1]) ?_ 4 _ rfl; (with_reducible repeat (first | refine blk_drewN ?_ _ | refine blk_drew ?_ | refine blk_alloc ?_ _)); refine blk_put (cs := #[.int .i64 x9_1, .int .i64 0, .int .i64 0, .int .i64 x212003_1, .int .i32 x212004_1]) ?_ 3 _ rfl; (with_reducible repeat (first | refine blk_drewN ?_ _ | refine blk_drew ?_ | refine blk_alloc ?_ _)); refine blk_put (cs := #[.int .i64 x9_1, .int .i64 0, .int .i64 x212002_1, .int .i64 x212003_1, .int .i32 x212004_1]) ?_ 2 _ rfl; (with_reducible repeat (first | refine blk_drewN ?_ _ | refine blk_drew ?_ | refine blk_alloc ?_ _)); refine blk_put (cs := #[.int .i64 x9_1, .int .i64 x212001_1, .int .i64 x212002_1, .int .i64 x212003_1, .int .i32 x212004_1]) ?_ 1 _ rfl; (with_reducible repeat (first | refine blk_drewN ?_ _ | refine blk_drew ?_ | refine blk_alloc ?_ _)); refine blk_put (cs := #[.int .i64 x212000_1, .int .i64 x212001_1, .int .i64 x212002_1, .int .i64 x212003_1, .int .i32 x212004_1]) ?_ 0 _ rfl; (with_reducible repeat (first | refine blk_drewN ?_ _ | refine blk_drew ?_ | refine blk_alloc ?_ _)); exact BK211.out) Tryd.underlying25 rfl (by kernel_rfl)) rfl ?_
                                    exact ⟨by first | rfl | (simp [errW_none, errW_some] <;> rfl) | (simp [*, errW_none, errW_some] <;> rfl), by repeat (first | (with_reducible first | exact HB.out | apply below_alloc | apply pw_below_drewN | apply below_drew1 | refine below_set ?_ GE211.out) | exact HB.out)⟩
          · rw [if_neg c9] at H
            have c9b0 : decide (x9_1 ≤ 47) = false := decide_eq_false c9
            clear c9
            simp only [Option.some.injEq, Prod.mk.injEq] at H
            obtain ⟨rfl, rfl, rfl, rfl, rfl⟩ := H
            have hcz46_0 : wr.cell? ⟨gb211, 0, none⟩ = some (.int .i64 x212000_1) := (blk_cell BK211.out 0).trans rfl
            have hcz46_1 : wr.cell? ⟨gb211, 1, none⟩ = some (.int .i64 x212001_1) := (blk_cell BK211.out 1).trans rfl
            have hcz46_2 : wr.cell? ⟨gb211, 2, none⟩ = some (.int .i64 x212002_1) := (blk_cell BK211.out 2).trans rfl
            have hcz46_3 : wr.cell? ⟨gb211, 3, none⟩ = some (.int .i64 x212003_1) := (blk_cell BK211.out 3).trans rfl
            have hcz46_4 : wr.cell? ⟨gb211, 4, none⟩ = some (.int .i32 x212004_1) := (blk_cell BK211.out 4).trans rfl
            have hfz46_0 := blk_frozen BK211.out 0
            have hfz46_1 := blk_frozen BK211.out 1
            have hfz46_2 := blk_frozen BK211.out 2
            have hfz46_3 := blk_frozen BK211.out 3
            have hfz46_4 := blk_frozen BK211.out 4
            go_wp2
            refine bodyPost_ret (results_cell_row rfl _ _ gb211 25 #[.int .i64 0, .int .i64 0, .int .i64 0, .int .i64 0, .int .i32 0] (0, 0) _ rfl (by (with_reducible repeat (first | refine blk_drewN ?_ _ | refine blk_drew ?_ | refine blk_alloc ?_ _)); refine blk_put (cs := #[.int .i64 0, .int .i64 0, .int .i64 0, .int .i64 0, .int .i32 x212004_1]) ?_ 4 _ rfl; (with_reducible repeat (first | refine blk_drewN ?_ _ | refine blk_drew ?_ | refine blk_alloc ?_ _)); refine blk_put (cs := #[.int .i64 0, .int .i64 0, .int .i64 0, .int .i64 x212003_1, .int .i32 x212004_1]) ?_ 3 _ rfl; (with_reducible repeat (first | refine blk_drewN ?_ _ | refine blk_drew ?_ | refine blk_alloc ?_ _)); refine blk_put (cs := #[.int .i64 0, .int .i64 0, .int .i64 x212002_1, .int .i64 x212003_1, .int .i32 x212004_1]) ?_ 2 _ rfl; (with_reducible repeat (first | refine blk_drewN ?_ _ | refine blk_drew ?_ | refine blk_alloc ?_ _)); refine blk_put (cs := #[.int .i64 0, .int .i64 x212001_1, .int .i64 x212002_1, .int .i64 x212003_1, .int .i32 x212004_1]) ?_ 1 _ rfl; (with_reducible repeat (first | refine blk_drewN ?_ _ | refine blk_drew ?_ | refine blk_alloc ?_ _)); refine blk_put (cs := #[.int .i64 x212000_1, .int .i64 x212001_1, .int .i64 x212002_1, .int .i64 x212003_1, .int .i32 x212004_1]) ?_ 0 _ rfl; (with_reducible repeat (first | refine blk_drewN ?_ _ | refine blk_drew ?_ | refine blk_alloc ?_ _)); exact BK211.out) Tryd.underlying25 rfl (by kernel_rfl)) rfl ?_
            exact ⟨by first | rfl | (simp [errW_none, errW_some] <;> rfl) | (simp [*, errW_none, errW_some] <;> rfl), by repeat (first | (with_reducible first | exact HB.out | apply below_alloc | apply pw_below_drewN | apply below_drew1 | refine below_set ?_ GE211.out) | exact HB.out)⟩
end Go.Proofs.YtmgbidehdnmjkaaDoor.Rv
