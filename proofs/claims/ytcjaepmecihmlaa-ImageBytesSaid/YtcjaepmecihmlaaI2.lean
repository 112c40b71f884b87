/- What Good, number, ident answer (its lines began as print.sh's). -/
import Derived.Test.YtcjaepmecihmlaaI0
import Derived.Test.YtcjaepmecihmlaaI1
namespace Go.Proofs.Ytcjaepmecihmlaa.Img
open Go.RowKit Go.Proofs.YtcjaepmecihmlaaW.PrintWords Go.Proofs.YtcjaepmecihmlaaW.PrintLast Go.Proofs.YtcjaepmecihmlaaW.PrintMore
attribute [local go_sem] zcp zcn zcw zcv zcc zcb zco zcm   -- for this text's walks alone
set_option linter.unusedVariables false
set_option linter.unusedSimpArgs false
/-! ### image_Good: function 12 -/
mutual
def image_Good.l0 : Nat → Int → Int → List (S30) → Int → Int → Int → List (S30) → Option (Int)
  | 0, _, _, _, _, _, _, _ => none
  | k + 1, x3, x4, x16, x17, x18, x116000, x116001 => if x18 < x17 then (if 0 ≤ x18 then (if x18 < (x16.length : Int) then ((image_Segment_may.f ((zan x16 x18).f0) ((zan x16 x18).f1) ((zan x16 x18).f2) ((zan x16 x18).f3)).bind fun t118 => (if t118 = true then (image_Good.l0 k (IntKind.u64.wrap (x3 + (IntKind.u64.wrap ((((zan x16 x18).f3).length : Int))))) (IntKind.u64.wrap (x4 + (IntKind.u64.wrap ((zan x16 x18).f1)))) x16 x17 (wrap64 (x18 + 1)) x116000 x116001) else (some 1))) else (none)) else (none)) else (if (x116001.length : Int) = 0 then (some 1) else (if x3 > 65536 then (some 2) else (if x4 > 65536 then (some 2) else (image_Good.l1 k x116001 (x116001.length : Int) 0 x116000 x116001))))
def image_Good.l1 : Nat → List (S30) → Int → Int → Int → List (S30) → Option (Int)
  | 0, _, _, _, _, _ => none
  | k + 1, x50, x51, x52, x116000, x116001 => if x52 < x51 then (if 0 ≤ x52 then (if x52 < (x50.length : Int) then (if x52 ≤ (x116001.length : Int) then ((some (x116001.take (x52 : Int).toNat : List (S30))).bind fun y122 => (image_Good.l2 k x50 x51 x52 y122 (y122.length : Int) 0 x116000 x116001 ((zan x50 x52).f0) ((zan x50 x52).f1) ((zan x50 x52).f2) ((zan x50 x52).f3))) else (none)) else (none)) else (none)) else ((image_Image_entry.f x116000 x116001).bind fun t119 => (if t119 = true then (some 0) else (some 1)))
def image_Good.l2 : Nat → List (S30) → Int → Int → List (S30) → Int → Int → Int → List (S30) → Int → Int → Int → List Int → Option (Int)
  | 0, _, _, _, _, _, _, _, _, _, _, _, _ => none
  | k + 1, x50, x51, x52, x60, x61, x62, x116000, x116001, x122000, x122001, x122002, x122003 => if x62 < x61 then (if 0 ≤ x62 then (if x62 < (x60.length : Int) then ((image_apart.f x122000 x122001 x122002 x122003 ((zan x60 x62).f0) ((zan x60 x62).f1) ((zan x60 x62).f2) ((zan x60 x62).f3)).bind fun t128 => (if t128 = true then (image_Good.l2 k x50 x51 x52 x60 x61 (wrap64 (x62 + 1)) x116000 x116001 x122000 x122001 x122002 x122003) else (some 1))) else (none)) else (none)) else (image_Good.l1 k x50 x51 (wrap64 (x52 + 1)) x116000 x116001)
end
def image_Good.f (k : Nat) (a0_0 : Int) (l0_1 : List (S30)) : Option (Int) := if (l0_1.length : Int) > 8 then (some 2) else (image_Good.l0 k 0 0 l0_1 (l0_1.length : Int) 0 a0_0 l0_1)
theorem image_Good.zbw : ∀ k, (∀ y0 y1 y2 y3 y4 y5 y6, LeO (image_Good.l0 k y0 y1 y2 y3 y4 y5 y6) (image_Good.l0 (k + 1) y0 y1 y2 y3 y4 y5 y6)) ∧ (∀ y0 y1 y2 y3 y4, LeO (image_Good.l1 k y0 y1 y2 y3 y4) (image_Good.l1 (k + 1) y0 y1 y2 y3 y4)) ∧ (∀ y0 y1 y2 y3 y4 y5 y6 y7 y8 y9 y10 y11, LeO (image_Good.l2 k y0 y1 y2 y3 y4 y5 y6 y7 y8 y9 y10 y11) (image_Good.l2 (k + 1) y0 y1 y2 y3 y4 y5 y6 y7 y8 y9 y10 y11))
  | 0 => ⟨fun _ _ _ _ _ _ _ r h => by simp [image_Good.l0] at h, fun _ _ _ _ _ r h => by simp [image_Good.l1] at h, fun _ _ _ _ _ _ _ _ _ _ _ _ r h => by simp [image_Good.l2] at h⟩
  | k + 1 => by
    obtain ⟨ih0, ih1, ih2⟩ := image_Good.zbw k
    refine ⟨?_, ?_, ?_⟩
    · intro y0 y1 y2 y3 y4 y5 y6
      unfold image_Good.l0
      repeat' first
      | (with_reducible exact ih0 _ _ _ _ _ _ _)
      | (with_reducible exact ih1 _ _ _ _ _)
      | (with_reducible exact ih2 _ _ _ _ _ _ _ _ _ _ _ _)
      | (with_reducible exact LeO.refl _)
      | (with_reducible exact LeO.none _)
      | (with_reducible refine LeO.ite ?_ ?_)
      | (with_reducible refine LeO.bind ?_ (fun _ => ?_))
      | exact ih0 _ _ _ _ _ _ _
      | exact ih1 _ _ _ _ _
      | exact ih2 _ _ _ _ _ _ _ _ _ _ _ _
      | exact LeO.none _
      | refine LeO.ite ?_ ?_
      | refine LeO.bind ?_ (fun _ => ?_)
    · intro y0 y1 y2 y3 y4
      unfold image_Good.l1
      repeat' first
      | (with_reducible exact ih0 _ _ _ _ _ _ _)
      | (with_reducible exact ih1 _ _ _ _ _)
      | (with_reducible exact ih2 _ _ _ _ _ _ _ _ _ _ _ _)
      | (with_reducible exact LeO.refl _)
      | (with_reducible exact LeO.none _)
      | (with_reducible refine LeO.ite ?_ ?_)
      | (with_reducible refine LeO.bind ?_ (fun _ => ?_))
      | exact ih0 _ _ _ _ _ _ _
      | exact ih1 _ _ _ _ _
      | exact ih2 _ _ _ _ _ _ _ _ _ _ _ _
      | exact LeO.none _
      | refine LeO.ite ?_ ?_
      | refine LeO.bind ?_ (fun _ => ?_)
    · intro y0 y1 y2 y3 y4 y5 y6 y7 y8 y9 y10 y11
      unfold image_Good.l2
      repeat' first
      | (with_reducible exact ih0 _ _ _ _ _ _ _)
      | (with_reducible exact ih1 _ _ _ _ _)
      | (with_reducible exact ih2 _ _ _ _ _ _ _ _ _ _ _ _)
      | (with_reducible exact LeO.refl _)
      | (with_reducible exact LeO.none _)
      | (with_reducible refine LeO.ite ?_ ?_)
      | (with_reducible refine LeO.bind ?_ (fun _ => ?_))
      | exact ih0 _ _ _ _ _ _ _
      | exact ih1 _ _ _ _ _
      | exact ih2 _ _ _ _ _ _ _ _ _ _ _ _
      | exact LeO.none _
      | refine LeO.ite ?_ ?_
      | refine LeO.bind ?_ (fun _ => ?_)
theorem image_Good.mono : ∀ a0 a1 k, LeO (image_Good.f k a0 a1) (image_Good.f (k + 1) a0 a1) := by
  intro a0 a1 k; obtain ⟨ih0, ih1, ih2⟩ := image_Good.zbw k; unfold image_Good.f
  repeat' first
      | (with_reducible exact ih0 _ _ _ _ _ _ _)
      | (with_reducible exact ih1 _ _ _ _ _)
      | (with_reducible exact ih2 _ _ _ _ _ _ _ _ _ _ _ _)
      | (with_reducible exact LeO.refl _)
      | (with_reducible exact LeO.none _)
      | (with_reducible refine LeO.ite ?_ ?_)
      | (with_reducible refine LeO.bind ?_ (fun _ => ?_))
      | exact ih0 _ _ _ _ _ _ _
      | exact ih1 _ _ _ _ _
      | exact ih2 _ _ _ _ _ _ _ _ _ _ _ _
      | exact LeO.none _
      | refine LeO.ite ?_ ?_
      | refine LeO.bind ?_ (fun _ => ?_)
set_option maxHeartbeats 8000000 in
set_option maxRecDepth 100000 in
theorem image_Good.calls (k : Nat) (a0_0 : Int) (A0_1 : Option Addr) (c0_1 : Nat) (l0_1 : List (S30)) (r : Int) (w : World) (hr0_1 : Kd.C k30 w A0_1 l0_1.length l0_1) (hc0_1 : l0_1.length ≤ c0_1) (h : image_Good.f k a0_0 l0_1 = some r) :
    Calls Try.prog 12 #[.agg #[.int .u32 a0_0, .slice A0_1 l0_1.length c0_1]] w fun e w' => e = .returned (.int .i64 r) ∧ Below w.heap.size w w' := by
  have hu26 := Try.underlying26; have hu30 := Try.underlying30; have HR0_1 := Aside0.mk hr0_1; have HC0_1 := Aside0.mk hc0_1; clear hr0_1 hc0_1; have HB := Aside0.mk (Below.refl w.heap.size w); have H : (if (l0_1.length : Int) > 8 then (some 2) else (image_Good.l0 k 0 0 l0_1 (l0_1.length : Int) 0 a0_0 l0_1)) = some r := h; clear h
  by_cases c2 : (l0_1.length : Int) > 8
  · rw [if_pos c2] at H
    have c2b0 : decide (8 < (l0_1.length : Int)) = true := decide_eq_true c2; have c2b1 : decide (8 < l0_1.length) = true := decide_eq_true (by omega); clear c2; obtain rfl := Option.some.inj H
    go_enter Try.func12, Try.ntmps12
    go_wp2_with (first | ((with_reducible refine zax (N := 1) rfl ?_); refine zau ?hg (N := 1) ?hd (cs := #[.int .u32 a0_0, .slice A0_1 l0_1.length c0_1]) (t := 26) ?hr ?_; (case hd => rfl); (case hg => rfl); (case hr => first | (go_simp; done) | (go_simp; rfl)); intro gb115 hg w3 hbox hb; have n0_ := Aside0.mk (zam (by with_reducible repeat (first | exact HB.out | apply zab | apply zaa | apply zac)) hb); have n1_ := Aside0.mk (hbox); have n2_ := Aside0.mk ((by rw [hg]; exact (zak (by with_reducible repeat (first | exact HB.out | apply zab | apply zaa | apply zac))) : w.heap.size ≤ gb115)); have n3_ := Aside0.mk ((by rw [hg]; exact (zak (by with_reducible repeat (first | exact HB.out | apply zab | apply zaa | apply zac))) : w.heap.size ≤ gb115)); clear HB; have HB := n0_; have BK115 := n1_; have GW115 := n2_; have GE115 := n3_; clear n0_ n1_ n2_ n3_; clear hb hbox hg; have hcz4_0 : w3.cell? ⟨gb115, 0, none⟩ = some (.int .u32 a0_0) := (zai BK115.out 0).trans rfl; have hcz4_1 : w3.cell? ⟨gb115, 1, none⟩ = some (.slice A0_1 l0_1.length c0_1) := (zai BK115.out 1).trans rfl; have hfz4_0 := zah BK115.out 0; have hfz4_1 := zah BK115.out 1))
    go_ret
    exact ⟨by first | rfl | (simp [*]; done) | (simp [*, zaz, zay] <;> rfl), by repeat (first | (with_reducible first | exact HB.out | apply zab | apply zaa | apply zac | refine zaf ?_ GE115.out) | exact HB.out)⟩
  rw [if_neg c2] at H; have c2b0 : decide (8 < (l0_1.length : Int)) = false := decide_eq_false c2; have c2b1 : decide (8 < l0_1.length) = false := decide_eq_false (by omega); clear c2
  have H' := Aside0.mk H
  clear H
  go_enter Try.func12, Try.ntmps12
  go_wp2_with (first | ((with_reducible refine zax (N := 1) rfl ?_); refine zau ?hg (N := 1) ?hd (cs := #[.int .u32 a0_0, .slice A0_1 l0_1.length c0_1]) (t := 26) ?hr ?_; (case hd => rfl); (case hg => rfl); (case hr => first | (go_simp; done) | (go_simp; rfl)); intro gb115 hg w5 hbox hb; have n0_ := Aside0.mk (zam (by with_reducible repeat (first | exact HB.out | apply zab | apply zaa | apply zac)) hb); have n1_ := Aside0.mk (hbox); have n2_ := Aside0.mk ((by rw [hg]; exact (zak (by with_reducible repeat (first | exact HB.out | apply zab | apply zaa | apply zac))) : w.heap.size ≤ gb115)); have n3_ := Aside0.mk ((by rw [hg]; exact (zak (by with_reducible repeat (first | exact HB.out | apply zab | apply zaa | apply zac))) : w.heap.size ≤ gb115)); clear HB; have HB := n0_; have BK115 := n1_; have GW115 := n2_; have GE115 := n3_; clear n0_ n1_ n2_ n3_; clear hb hbox hg; have hcz6_0 : w5.cell? ⟨gb115, 0, none⟩ = some (.int .u32 a0_0) := (zai BK115.out 0).trans rfl; have hcz6_1 : w5.cell? ⟨gb115, 1, none⟩ = some (.slice A0_1 l0_1.length c0_1) := (zai BK115.out 1).trans rfl; have hfz6_0 := zah BK115.out 0; have hfz6_1 := zah BK115.out 1))
  go_loopg [3, 4, 18] k (fun kq v3 v4 v18 w' => ∃ (x3_1 : Int) (x4_1 : Int) (x18_1 : Int), v3 = .int .u64 x3_1 ∧ v4 = .int .u64 x4_1 ∧ v18 = .int .i64 x18_1 ∧ Aside0 (image_Good.l0 kq x3_1 x4_1 l0_1 (l0_1.length : Int) x18_1 a0_0 l0_1 = some r) ∧ Aside0 (kq ≤ k) ∧ Aside0 (w'.heap[gb115]? = some (.cells #[.int .u32 a0_0, (.slice A0_1 l0_1.length c0_1)] 26 (0, 0))) ∧ Aside0 (Below w.heap.size w w'))
  case atStart => exact ⟨(0), (0), (0), (by first | rfl | (simp; done) | (simp [*]; done)), (by first | rfl | (simp; done) | (simp [*]; done)), (by first | rfl | (simp; done) | (simp [*]; done)), H', ⟨Nat.le_refl _⟩, ⟨by (with_reducible repeat (first | refine zae ?_ _ | refine zaj ?_ | refine zad ?_ _)); exact BK115.out⟩, ⟨by repeat (first | (with_reducible first | exact HB.out | apply zab | apply zaa | apply zac | refine zaf ?_ GE115.out) | exact HB.out)⟩⟩
  case round =>
    clear H'
    try clear c1
    try clear c2
    try clear c2b0
    try clear c2b1
    try clear p2
    try clear hcz4_0
    try clear hcz4_1
    try clear hcz6_0
    try clear hcz6_1
    try clear hfz4_0
    try clear hfz4_1
    try clear hfz6_0
    try clear hfz6_1
    obtain ⟨x3_1, x4_1, x18_1, rfl, rfl, rfl, HA, HK1, BK115, HB⟩ := hrel
    cases gk with
    | zero => exact absurd HA.out (by simp [image_Good.l0])
    | succ k1 =>
      have H := HA.out; clear HA; simp only [image_Good.l0] at H
      by_cases c7 : x18_1 < (l0_1.length : Int)
      · rw [if_pos c7] at H
        have c7b0 : decide (x18_1 < (l0_1.length : Int)) = true := decide_eq_true c7; clear c7
        by_cases c8 : 0 ≤ x18_1
        rotate_left
        · rw [if_neg c8] at H
          exact absurd H (by simp)
        rw [if_pos c8] at H; have c8b0 : decide (0 ≤ x18_1) = true := decide_eq_true c8; clear c8
        by_cases c9 : x18_1 < (l0_1.length : Int)
        rotate_left
        · rw [if_neg c9] at H
          exact absurd H (by simp)
        rw [if_pos c9] at H; have c9b0 : decide (x18_1 < (l0_1.length : Int)) = true := decide_eq_true c9; clear c9
        replace H := Option.bind_eq_some_iff.mp H
        obtain ⟨t118, A100, H⟩ := H; replace H : (if t118 = true then (image_Good.l0 k1 (IntKind.u64.wrap (x3_1 + (IntKind.u64.wrap ((((zan l0_1 x18_1).f3).length : Int))))) (IntKind.u64.wrap (x4_1 + (IntKind.u64.wrap ((zan l0_1 x18_1).f1)))) l0_1 (l0_1.length : Int) (wrap64 (x18_1 + 1)) a0_0 l0_1) else (some 1)) = some r := H; have A10 := Aside0.mk A100; clear A100
        by_cases c11 : t118 = true
        rotate_left
        · replace c11 := Bool.eq_false_iff.mpr c11
          subst c11
          have H1 : (some 1) = some r := by rw [if_neg (show ¬ (false = true) by decide)] at H; exact H
          clear H; have H := H1; clear H1; obtain rfl := Option.some.inj H; have p116 : 0 ≤ (x18_1 : Int) := of_decide_eq_true (by assumption); have q116 : x18_1 < (l0_1.length : Int) := of_decide_eq_true (by assumption); obtain ⟨ad116, A116_3, c116_3, e116, hx116_0, hx116_1, hx116_2, hx116_3, hl116_3, hi116_3⟩ := zd4 HR0_1.out x18_1 p116 q116; cases e116
          replace hx116_0 := (HB.out.cell (World.block_lt_of_cell? w _ hx116_0)).trans hx116_0
          replace hx116_1 := (HB.out.cell (World.block_lt_of_cell? w _ hx116_1)).trans hx116_1
          replace hx116_2 := (HB.out.cell (World.block_lt_of_cell? w _ hx116_2)).trans hx116_2
          replace hx116_3 := (HB.out.cell (World.block_lt_of_cell? w _ hx116_3)).trans hx116_3
          have HR116_3 := Aside0.mk hi116_3; have HC116_3 := Aside0.mk hl116_3; clear hi116_3 hl116_3
          replace p116 := eq_true p116
          replace q116 := eq_true q116
          go_wp2_with (first | ((with_reducible refine zax (N := 6) rfl ?_); refine zau ?hg (N := 6) ?hd (cs := #[.int .u32 0, .int .u32 0, .int .i64 0, .slice none 0 0]) (t := 30) ?hr ?_; (case hd => rfl); (case hg => rfl); (case hr => first | (go_simp; done) | (go_simp; rfl)); intro gb117 hg w17 hbox hb; have n0_ := Aside0.mk (zaq (g := gb115) (o := .cells #[.int .u32 a0_0, .slice (some ad116) l0_1.length c0_1] 26 (0, 0)) (by (with_reducible repeat (first | refine zae ?_ _ | refine zaj ?_ | refine zad ?_ _)); exact BK115.out) hb); have n1_ := Aside0.mk (zam (by with_reducible repeat (first | exact HB.out | apply zab | apply zaa | apply zac | refine zaf ?_ GE115.out)) hb); have n2_ := Aside0.mk (hbox); have n3_ := Aside0.mk ((by rw [hg]; exact (zak (by with_reducible repeat (first | exact HB.out | apply zab | apply zaa | apply zac | refine zaf ?_ GE115.out))) : w.heap.size ≤ gb117)); have n4_ := Aside0.mk ((by rw [hg]; exact (zak (by with_reducible repeat (first | exact HB.out | apply zab | apply zaa | apply zac | refine zaf ?_ GE115.out))) : w.heap.size ≤ gb117)); have n5_ := Aside0.mk ((by rw [hg]; exact Nat.ne_of_lt (za3 (g := gb115) (o := .cells #[.int .u32 a0_0, .slice (some ad116) l0_1.length c0_1] 26 (0, 0)) (by (with_reducible repeat (first | refine zae ?_ _ | refine zaj ?_ | refine zad ?_ _)); exact BK115.out)) : gb115 ≠ gb117)); have n6_ := Aside0.mk ((by rw [hg]; exact Nat.ne_of_gt (za3 (g := gb115) (o := .cells #[.int .u32 a0_0, .slice (some ad116) l0_1.length c0_1] 26 (0, 0)) (by (with_reducible repeat (first | refine zae ?_ _ | refine zaj ?_ | refine zad ?_ _)); exact BK115.out)) : gb117 ≠ gb115)); clear BK115; clear HB; have BK115 := n0_; have HB := n1_; have BK117 := n2_; have GW117 := n3_; have GE117 := n4_; have NB115_117 := n5_; have NB117_115 := n6_; clear n0_ n1_ n2_ n3_ n4_ n5_ n6_; clear hb hbox hg; have hnb18 := NB117_115.out; have hnc18 := NB115_117.out; have hcz19_0 : w17.cell? ⟨gb117, 0, none⟩ = some (.int .u32 0) := (zai BK117.out 0).trans rfl; have hcz19_1 : w17.cell? ⟨gb117, 1, none⟩ = some (.int .u32 0) := (zai BK117.out 1).trans rfl; have hcz19_2 : w17.cell? ⟨gb117, 2, none⟩ = some (.int .i64 0) := (zai BK117.out 2).trans rfl; have hcz19_3 : w17.cell? ⟨gb117, 3, none⟩ = some (.slice none 0 0) := (zai BK117.out 3).trans rfl; have hfz19_0 := zah BK117.out 0; have hfz19_1 := zah BK117.out 1; have hfz19_2 := zah BK117.out 2; have hfz19_3 := zah BK117.out 3) | ((with_reducible refine za0 (f := 25) rfl ?_); refine zbm (some 23) rfl rfl Try.func25 (by kernel_rfl) rfl #[.agg #[.int .u32 ((zan l0_1 x18_1).f0), .int .u32 ((zan l0_1 x18_1).f1), .int .i64 ((zan l0_1 x18_1).f2), .slice A116_3 ((zan l0_1 x18_1).f3).length c116_3]] rfl (by first | done | rfl | (simp only [List.map_toArray, List.map_cons, List.map_nil, List.length_drop, List.length_take]; rfl)) ?_; (with_reducible refine (image_Segment_may.calls ((zan l0_1 x18_1).f0) ((zan l0_1 x18_1).f1) ((zan l0_1 x18_1).f2) _ _ ((zan l0_1 x18_1).f3) false _ ?side1 ?side2 A10.out).mono ?_); (case side1 => exact Kd.za7 HR116_3.out (by with_reducible repeat (first | exact HB.out | apply zab | apply zaa | apply zac | refine zaf ?_ GE115.out | refine zaf ?_ GE117.out))); (case side2 => exact HC116_3.out); rintro e w20 ⟨rfl, hb⟩; refine ⟨_, rfl, ?_⟩; have n0_ := Aside0.mk (zaq (g := gb115) (o := .cells #[.int .u32 a0_0, .slice (some ad116) l0_1.length c0_1] 26 (0, 0)) (by (with_reducible repeat (first | refine zae ?_ _ | refine zaj ?_ | refine zad ?_ _)); refine za4 ?_ NB115_117.out _; (with_reducible repeat (first | refine zae ?_ _ | refine zaj ?_ | refine zad ?_ _)); refine za4 ?_ NB115_117.out _; (with_reducible repeat (first | refine zae ?_ _ | refine zaj ?_ | refine zad ?_ _)); refine za4 ?_ NB115_117.out _; (with_reducible repeat (first | refine zae ?_ _ | refine zaj ?_ | refine zad ?_ _)); refine za4 ?_ NB115_117.out _; (with_reducible repeat (first | refine zae ?_ _ | refine zaj ?_ | refine zad ?_ _)); exact BK115.out) hb); have n1_ := Aside0.mk (zaq (g := gb117) (o := .cells #[.int .u32 ((zan l0_1 x18_1).f0), .int .u32 ((zan l0_1 x18_1).f1), .int .i64 ((zan l0_1 x18_1).f2), .slice A116_3 ((zan l0_1 x18_1).f3).length c116_3] 30 (0, 0)) (by (with_reducible repeat (first | refine zae ?_ _ | refine zaj ?_ | refine zad ?_ _)); refine za8 (cs := #[.int .u32 ((zan l0_1 x18_1).f0), .int .u32 ((zan l0_1 x18_1).f1), .int .i64 ((zan l0_1 x18_1).f2), .slice none 0 0]) ?_ 3 _ rfl; (with_reducible repeat (first | refine zae ?_ _ | refine zaj ?_ | refine zad ?_ _)); refine za8 (cs := #[.int .u32 ((zan l0_1 x18_1).f0), .int .u32 ((zan l0_1 x18_1).f1), .int .i64 0, .slice none 0 0]) ?_ 2 _ rfl; (with_reducible repeat (first | refine zae ?_ _ | refine zaj ?_ | refine zad ?_ _)); refine za8 (cs := #[.int .u32 ((zan l0_1 x18_1).f0), .int .u32 0, .int .i64 0, .slice none 0 0]) ?_ 1 _ rfl; (with_reducible repeat (first | refine zae ?_ _ | refine zaj ?_ | refine zad ?_ _)); refine za8 (cs := #[.int .u32 0, .int .u32 0, .int .i64 0, .slice none 0 0]) ?_ 0 _ rfl; (with_reducible repeat (first | refine zae ?_ _ | refine zaj ?_ | refine zad ?_ _)); exact BK117.out) hb); have n2_ := Aside0.mk (zam (by with_reducible repeat (first | exact HB.out | apply zab | apply zaa | apply zac | refine zaf ?_ GE115.out | refine zaf ?_ GE117.out)) hb); clear BK115; clear BK117; clear HB; have BK115 := n0_; have BK117 := n1_; have HB := n2_; clear n0_ n1_ n2_; (try clear hb); (try clear hb2); (try clear hk); (try clear hi)))
          go_ret
          exact ⟨by first | rfl | (simp [*]; done) | (simp [*, zaz, zay] <;> rfl), by repeat (first | (with_reducible first | exact HB.out | apply zab | apply zaa | apply zac | refine zaf ?_ GE115.out | refine zaf ?_ GE117.out) | exact HB.out)⟩
        subst c11
        have H1 : (image_Good.l0 k1 (IntKind.u64.wrap (x3_1 + (IntKind.u64.wrap ((((zan l0_1 x18_1).f3).length : Int))))) (IntKind.u64.wrap (x4_1 + (IntKind.u64.wrap ((zan l0_1 x18_1).f1)))) l0_1 (l0_1.length : Int) (wrap64 (x18_1 + 1)) a0_0 l0_1) = some r := by rw [if_pos rfl] at H; exact H
        clear H; have H := H1; clear H1
        have H' := Aside0.mk H
        clear H; have p116 : 0 ≤ (x18_1 : Int) := of_decide_eq_true (by assumption); have q116 : x18_1 < (l0_1.length : Int) := of_decide_eq_true (by assumption); obtain ⟨ad116, A116_3, c116_3, e116, hx116_0, hx116_1, hx116_2, hx116_3, hl116_3, hi116_3⟩ := zd4 HR0_1.out x18_1 p116 q116; cases e116
        replace hx116_0 := (HB.out.cell (World.block_lt_of_cell? w _ hx116_0)).trans hx116_0
        replace hx116_1 := (HB.out.cell (World.block_lt_of_cell? w _ hx116_1)).trans hx116_1
        replace hx116_2 := (HB.out.cell (World.block_lt_of_cell? w _ hx116_2)).trans hx116_2
        replace hx116_3 := (HB.out.cell (World.block_lt_of_cell? w _ hx116_3)).trans hx116_3
        have HR116_3 := Aside0.mk hi116_3; have HC116_3 := Aside0.mk hl116_3; clear hi116_3 hl116_3
        replace p116 := eq_true p116
        replace q116 := eq_true q116
        go_wp2_with (first | ((with_reducible refine zax (N := 6) rfl ?_); refine zau ?hg (N := 6) ?hd (cs := #[.int .u32 0, .int .u32 0, .int .i64 0, .slice none 0 0]) (t := 30) ?hr ?_; (case hd => rfl); (case hg => rfl); (case hr => first | (go_simp; done) | (go_simp; rfl)); intro gb117 hg w12 hbox hb; have n0_ := Aside0.mk (zaq (g := gb115) (o := .cells #[.int .u32 a0_0, .slice (some ad116) l0_1.length c0_1] 26 (0, 0)) (by (with_reducible repeat (first | refine zae ?_ _ | refine zaj ?_ | refine zad ?_ _)); exact BK115.out) hb); have n1_ := Aside0.mk (zam (by with_reducible repeat (first | exact HB.out | apply zab | apply zaa | apply zac | refine zaf ?_ GE115.out)) hb); have n2_ := Aside0.mk (hbox); have n3_ := Aside0.mk ((by rw [hg]; exact (zak (by with_reducible repeat (first | exact HB.out | apply zab | apply zaa | apply zac | refine zaf ?_ GE115.out))) : w.heap.size ≤ gb117)); have n4_ := Aside0.mk ((by rw [hg]; exact (zak (by with_reducible repeat (first | exact HB.out | apply zab | apply zaa | apply zac | refine zaf ?_ GE115.out))) : w.heap.size ≤ gb117)); have n5_ := Aside0.mk ((by rw [hg]; exact Nat.ne_of_lt (za3 (g := gb115) (o := .cells #[.int .u32 a0_0, .slice (some ad116) l0_1.length c0_1] 26 (0, 0)) (by (with_reducible repeat (first | refine zae ?_ _ | refine zaj ?_ | refine zad ?_ _)); exact BK115.out)) : gb115 ≠ gb117)); have n6_ := Aside0.mk ((by rw [hg]; exact Nat.ne_of_gt (za3 (g := gb115) (o := .cells #[.int .u32 a0_0, .slice (some ad116) l0_1.length c0_1] 26 (0, 0)) (by (with_reducible repeat (first | refine zae ?_ _ | refine zaj ?_ | refine zad ?_ _)); exact BK115.out)) : gb117 ≠ gb115)); clear BK115; clear HB; have BK115 := n0_; have HB := n1_; have BK117 := n2_; have GW117 := n3_; have GE117 := n4_; have NB115_117 := n5_; have NB117_115 := n6_; clear n0_ n1_ n2_ n3_ n4_ n5_ n6_; clear hb hbox hg; have hnb13 := NB117_115.out; have hnc13 := NB115_117.out; have hcz14_0 : w12.cell? ⟨gb117, 0, none⟩ = some (.int .u32 0) := (zai BK117.out 0).trans rfl; have hcz14_1 : w12.cell? ⟨gb117, 1, none⟩ = some (.int .u32 0) := (zai BK117.out 1).trans rfl; have hcz14_2 : w12.cell? ⟨gb117, 2, none⟩ = some (.int .i64 0) := (zai BK117.out 2).trans rfl; have hcz14_3 : w12.cell? ⟨gb117, 3, none⟩ = some (.slice none 0 0) := (zai BK117.out 3).trans rfl; have hfz14_0 := zah BK117.out 0; have hfz14_1 := zah BK117.out 1; have hfz14_2 := zah BK117.out 2; have hfz14_3 := zah BK117.out 3) | ((with_reducible refine za0 (f := 25) rfl ?_); refine zbm (some 23) rfl rfl Try.func25 (by kernel_rfl) rfl #[.agg #[.int .u32 ((zan l0_1 x18_1).f0), .int .u32 ((zan l0_1 x18_1).f1), .int .i64 ((zan l0_1 x18_1).f2), .slice A116_3 ((zan l0_1 x18_1).f3).length c116_3]] rfl (by first | done | rfl | (simp only [List.map_toArray, List.map_cons, List.map_nil, List.length_drop, List.length_take]; rfl)) ?_; (with_reducible refine (image_Segment_may.calls ((zan l0_1 x18_1).f0) ((zan l0_1 x18_1).f1) ((zan l0_1 x18_1).f2) _ _ ((zan l0_1 x18_1).f3) true _ ?side1 ?side2 A10.out).mono ?_); (case side1 => exact Kd.za7 HR116_3.out (by with_reducible repeat (first | exact HB.out | apply zab | apply zaa | apply zac | refine zaf ?_ GE115.out | refine zaf ?_ GE117.out))); (case side2 => exact HC116_3.out); rintro e w15 ⟨rfl, hb⟩; refine ⟨_, rfl, ?_⟩; have n0_ := Aside0.mk (zaq (g := gb115) (o := .cells #[.int .u32 a0_0, .slice (some ad116) l0_1.length c0_1] 26 (0, 0)) (by (with_reducible repeat (first | refine zae ?_ _ | refine zaj ?_ | refine zad ?_ _)); refine za4 ?_ NB115_117.out _; (with_reducible repeat (first | refine zae ?_ _ | refine zaj ?_ | refine zad ?_ _)); refine za4 ?_ NB115_117.out _; (with_reducible repeat (first | refine zae ?_ _ | refine zaj ?_ | refine zad ?_ _)); refine za4 ?_ NB115_117.out _; (with_reducible repeat (first | refine zae ?_ _ | refine zaj ?_ | refine zad ?_ _)); refine za4 ?_ NB115_117.out _; (with_reducible repeat (first | refine zae ?_ _ | refine zaj ?_ | refine zad ?_ _)); exact BK115.out) hb); have n1_ := Aside0.mk (zaq (g := gb117) (o := .cells #[.int .u32 ((zan l0_1 x18_1).f0), .int .u32 ((zan l0_1 x18_1).f1), .int .i64 ((zan l0_1 x18_1).f2), .slice A116_3 ((zan l0_1 x18_1).f3).length c116_3] 30 (0, 0)) (by (with_reducible repeat (first | refine zae ?_ _ | refine zaj ?_ | refine zad ?_ _)); refine za8 (cs := #[.int .u32 ((zan l0_1 x18_1).f0), .int .u32 ((zan l0_1 x18_1).f1), .int .i64 ((zan l0_1 x18_1).f2), .slice none 0 0]) ?_ 3 _ rfl; (with_reducible repeat (first | refine zae ?_ _ | refine zaj ?_ | refine zad ?_ _)); refine za8 (cs := #[.int .u32 ((zan l0_1 x18_1).f0), .int .u32 ((zan l0_1 x18_1).f1), .int .i64 0, .slice none 0 0]) ?_ 2 _ rfl; (with_reducible repeat (first | refine zae ?_ _ | refine zaj ?_ | refine zad ?_ _)); refine za8 (cs := #[.int .u32 ((zan l0_1 x18_1).f0), .int .u32 0, .int .i64 0, .slice none 0 0]) ?_ 1 _ rfl; (with_reducible repeat (first | refine zae ?_ _ | refine zaj ?_ | refine zad ?_ _)); refine za8 (cs := #[.int .u32 0, .int .u32 0, .int .i64 0, .slice none 0 0]) ?_ 0 _ rfl; (with_reducible repeat (first | refine zae ?_ _ | refine zaj ?_ | refine zad ?_ _)); exact BK117.out) hb); have n2_ := Aside0.mk (zam (by with_reducible repeat (first | exact HB.out | apply zab | apply zaa | apply zac | refine zaf ?_ GE115.out | refine zaf ?_ GE117.out)) hb); clear BK115; clear BK117; clear HB; have BK115 := n0_; have BK117 := n1_; have HB := n2_; clear n0_ n1_ n2_; (try clear hb); (try clear hb2); (try clear hk); (try clear hi); have hcz16_0 : w15.cell? ⟨gb117, 0, none⟩ = some (.int .u32 ((zan l0_1 x18_1).f0)) := (zai BK117.out 0).trans rfl; have hcz16_1 : w15.cell? ⟨gb117, 1, none⟩ = some (.int .u32 ((zan l0_1 x18_1).f1)) := (zai BK117.out 1).trans rfl; have hcz16_2 : w15.cell? ⟨gb117, 2, none⟩ = some (.int .i64 ((zan l0_1 x18_1).f2)) := (zai BK117.out 2).trans rfl; have hcz16_3 : w15.cell? ⟨gb117, 3, none⟩ = some (.slice A116_3 ((zan l0_1 x18_1).f3).length c116_3) := (zai BK117.out 3).trans rfl; have hfz16_0 := zah BK117.out 0; have hfz16_1 := zah BK117.out 1; have hfz16_2 := zah BK117.out 2; have hfz16_3 := zah BK117.out 3))
        go_roundg k1
        case measure => have := HK1.out; omega
        case rel => exact ⟨(IntKind.u64.wrap (x3_1 + (IntKind.u64.wrap ((((zan l0_1 x18_1).f3).length : Int))))), (IntKind.u64.wrap (x4_1 + (IntKind.u64.wrap ((zan l0_1 x18_1).f1)))), (wrap64 (x18_1 + 1)), (by first | rfl | (simp; done) | (simp [*]; done)), (by first | rfl | (simp; done) | (simp [*]; done)), (by first | rfl | (simp; done) | (simp [*]; done)), H', ⟨by have := HK1.out; omega⟩, ⟨by (with_reducible repeat (first | refine zae ?_ _ | refine zaj ?_ | refine zad ?_ _)); exact BK115.out⟩, ⟨by repeat (first | (with_reducible first | exact HB.out | apply zab | apply zaa | apply zac | refine zaf ?_ GE115.out | refine zaf ?_ GE117.out) | exact HB.out)⟩⟩
      rw [if_neg c7] at H; have c7b0 : decide (x18_1 < (l0_1.length : Int)) = false := decide_eq_false c7; clear c7
      by_cases c21 : (l0_1.length : Int) = 0
      · rw [if_pos c21] at H
        have c21b0 : ((l0_1.length : Int) == 0) = true := beq_iff_eq.mpr c21; have c21b1 : ((l0_1.length : Int) != 0) = false := bne_eq_false_iff_eq.mpr c21; clear c21; obtain rfl := Option.some.inj H; have hcz22_0 : wr.cell? ⟨gb115, 0, none⟩ = some (.int .u32 a0_0) := (zai BK115.out 0).trans rfl; have hcz22_1 : wr.cell? ⟨gb115, 1, none⟩ = some (.slice A0_1 l0_1.length c0_1) := (zai BK115.out 1).trans rfl; have hfz22_0 := zah BK115.out 0; have hfz22_1 := zah BK115.out 1; go_wp2
        go_ret
        exact ⟨by first | rfl | (simp [*]; done) | (simp [*, zaz, zay] <;> rfl), by repeat (first | (with_reducible first | exact HB.out | apply zab | apply zaa | apply zac | refine zaf ?_ GE115.out) | exact HB.out)⟩
      rw [if_neg c21] at H; have c21b0 : ((l0_1.length : Int) == 0) = false := beq_eq_false_iff_ne.mpr c21; have c21b1 : ((l0_1.length : Int) != 0) = true := bne_iff_ne.mpr c21
      have c21b2 : ¬ (l0_1 = []) := fun h_ => c21 (by rw [h_]; rfl)
      by_cases c23 : x3_1 > 65536
      · rw [if_pos c23] at H
        have c23b0 : decide (65536 < x3_1) = true := decide_eq_true c23; clear c23; obtain rfl := Option.some.inj H; have hcz24_0 : wr.cell? ⟨gb115, 0, none⟩ = some (.int .u32 a0_0) := (zai BK115.out 0).trans rfl; have hcz24_1 : wr.cell? ⟨gb115, 1, none⟩ = some (.slice A0_1 l0_1.length c0_1) := (zai BK115.out 1).trans rfl; have hfz24_0 := zah BK115.out 0; have hfz24_1 := zah BK115.out 1; go_wp2
        go_ret
        exact ⟨by first | rfl | (simp [*]; done) | (simp [*, zaz, zay] <;> rfl), by repeat (first | (with_reducible first | exact HB.out | apply zab | apply zaa | apply zac | refine zaf ?_ GE115.out) | exact HB.out)⟩
      rw [if_neg c23] at H; have c23b0 : decide (65536 < x3_1) = false := decide_eq_false c23; clear c23
      by_cases c25 : x4_1 > 65536
      · rw [if_pos c25] at H
        have c25b0 : decide (65536 < x4_1) = true := decide_eq_true c25; clear c25; obtain rfl := Option.some.inj H; have hcz26_0 : wr.cell? ⟨gb115, 0, none⟩ = some (.int .u32 a0_0) := (zai BK115.out 0).trans rfl; have hcz26_1 : wr.cell? ⟨gb115, 1, none⟩ = some (.slice A0_1 l0_1.length c0_1) := (zai BK115.out 1).trans rfl; have hfz26_0 := zah BK115.out 0; have hfz26_1 := zah BK115.out 1; go_wp2
        go_ret
        exact ⟨by first | rfl | (simp [*]; done) | (simp [*, zaz, zay] <;> rfl), by repeat (first | (with_reducible first | exact HB.out | apply zab | apply zaa | apply zac | refine zaf ?_ GE115.out) | exact HB.out)⟩
      rw [if_neg c25] at H; have c25b0 : decide (65536 < x4_1) = false := decide_eq_false c25; clear c25
      have H' := Aside0.mk H
      clear H; have hcz27_0 : wr.cell? ⟨gb115, 0, none⟩ = some (.int .u32 a0_0) := (zai BK115.out 0).trans rfl; have hcz27_1 : wr.cell? ⟨gb115, 1, none⟩ = some (.slice A0_1 l0_1.length c0_1) := (zai BK115.out 1).trans rfl; have hfz27_0 := zah BK115.out 0; have hfz27_1 := zah BK115.out 1; go_wp2
      go_loopg [52] k1 (fun kq v52 w' => ∃ (x52_2 : Int), v52 = .int .i64 x52_2 ∧ Aside0 (image_Good.l1 kq l0_1 (l0_1.length : Int) x52_2 a0_0 l0_1 = some r) ∧ Aside0 (kq ≤ k1) ∧ Aside0 (w'.heap[gb115]? = some (.cells #[.int .u32 a0_0, (.slice A0_1 l0_1.length c0_1)] 26 (0, 0))) ∧ Aside0 (Below w.heap.size w w'))
      case atStart => exact ⟨(0), (by first | rfl | (simp; done) | (simp [*]; done)), H', ⟨Nat.le_refl _⟩, ⟨by (with_reducible repeat (first | refine zae ?_ _ | refine zaj ?_ | refine zad ?_ _)); exact BK115.out⟩, ⟨by repeat (first | (with_reducible first | exact HB.out | apply zab | apply zaa | apply zac | refine zaf ?_ GE115.out) | exact HB.out)⟩⟩
      case round =>
        clear H'
        try clear c1
        try clear p1
        try clear q1
        try clear hx1
        try clear c2
        try clear c2b0
        try clear c2b1
        try clear p2
        try clear p6
        try clear c7
        try clear c7b0
        try clear c8
        try clear c8b0
        try clear c9
        try clear c9b0
        try clear c11
        try clear p11
        try clear q11
        try clear hx11
        try clear c12
        try clear c13
        try clear c18
        try clear c21
        try clear c21b0
        try clear c21b1
        try clear c21b2
        try clear c23
        try clear c23b0
        try clear c25
        try clear c25b0
        try clear hcz14_0
        try clear hcz14_1
        try clear hcz14_2
        try clear hcz14_3
        try clear hcz16_0
        try clear hcz16_1
        try clear hcz16_2
        try clear hcz16_3
        try clear hcz19_0
        try clear hcz19_1
        try clear hcz19_2
        try clear hcz19_3
        try clear hcz22_0
        try clear hcz22_1
        try clear hcz24_0
        try clear hcz24_1
        try clear hcz26_0
        try clear hcz26_1
        try clear hcz27_0
        try clear hcz27_1
        try clear hcz4_0
        try clear hcz4_1
        try clear hcz6_0
        try clear hcz6_1
        try clear hfz14_0
        try clear hfz14_1
        try clear hfz14_2
        try clear hfz14_3
        try clear hfz16_0
        try clear hfz16_1
        try clear hfz16_2
        try clear hfz16_3
        try clear hfz19_0
        try clear hfz19_1
        try clear hfz19_2
        try clear hfz19_3
        try clear hfz22_0
        try clear hfz22_1
        try clear hfz24_0
        try clear hfz24_1
        try clear hfz26_0
        try clear hfz26_1
        try clear hfz27_0
        try clear hfz27_1
        try clear hfz4_0
        try clear hfz4_1
        try clear hfz6_0
        try clear hfz6_1
        try clear hx116_0
        try clear hx116_1
        try clear hx116_2
        try clear hx116_3
        try clear p116
        try clear p2
        try clear q116
        obtain ⟨x52_2, rfl, HA, HK2, BK115, HB⟩ := hrel
        cases gk with
        | zero => exact absurd HA.out (by simp [image_Good.l1])
        | succ k2 =>
          have H := HA.out; clear HA; simp only [image_Good.l1] at H
          by_cases c28 : x52_2 < (l0_1.length : Int)
          rotate_left
          · rw [if_neg c28] at H
            have c28b0 : decide (x52_2 < (l0_1.length : Int)) = false := decide_eq_false c28; clear c28
            replace H := Option.bind_eq_some_iff.mp H
            obtain ⟨t119, A580, H⟩ := H; replace H : (if t119 = true then (some 0) else (some 1)) = some r := H; have A58 := Aside0.mk A580; clear A580
            by_cases c59 : t119 = true
            · subst c59
              have H1 : (some 0) = some r := by rw [if_pos rfl] at H; exact H
              clear H; have H := H1; clear H1; obtain rfl := Option.some.inj H; have hcz60_0 : wr.cell? ⟨gb115, 0, none⟩ = some (.int .u32 a0_0) := (zai BK115.out 0).trans rfl; have hcz60_1 : wr.cell? ⟨gb115, 1, none⟩ = some (.slice A0_1 l0_1.length c0_1) := (zai BK115.out 1).trans rfl; have hfz60_0 := zah BK115.out 0; have hfz60_1 := zah BK115.out 1
              go_wp2_with (first | ((with_reducible refine za0 (f := 27) rfl ?_); refine zbm (some 73) rfl rfl Try.func27 (by kernel_rfl) rfl #[.agg #[.int .u32 a0_0, .slice A0_1 l0_1.length c0_1]] rfl (by first | done | rfl | (simp only [List.map_toArray, List.map_cons, List.map_nil, List.length_drop, List.length_take]; rfl)) ?_; (with_reducible refine (image_Image_entry.calls a0_0 _ _ l0_1 true _ ?side1 ?side2 A58.out).mono ?_); (case side1 => repeat (first | exact (Kd.za7 HR0_1.out HB.out) | (with_reducible refine Kd.za2 ?_ _) | (with_reducible refine Kd.za1 ?_ _) | (with_reducible refine Kd.za9 ?_))); (case side2 => exact HC0_1.out); rintro e w61 ⟨rfl, hb⟩; refine ⟨_, rfl, ?_⟩; have n0_ := Aside0.mk (zaq (g := gb115) (o := .cells #[.int .u32 a0_0, .slice A0_1 l0_1.length c0_1] 26 (0, 0)) (by (with_reducible repeat (first | refine zae ?_ _ | refine zaj ?_ | refine zad ?_ _)); exact BK115.out) hb); have n1_ := Aside0.mk (zam (by with_reducible repeat (first | exact HB.out | apply zab | apply zaa | apply zac | refine zaf ?_ GE115.out)) hb); clear BK115; clear HB; have BK115 := n0_; have HB := n1_; clear n0_ n1_; (try clear hb); (try clear hb2); (try clear hk); (try clear hi)))
              go_ret
              exact ⟨by first | rfl | (simp [*]; done) | (simp [*, zaz, zay] <;> rfl), by repeat (first | (with_reducible first | exact HB.out | apply zab | apply zaa | apply zac | refine zaf ?_ GE115.out) | exact HB.out)⟩
            replace c59 := Bool.eq_false_iff.mpr c59
            subst c59
            have H1 : (some 1) = some r := by rw [if_neg (show ¬ (false = true) by decide)] at H; exact H
            clear H; have H := H1; clear H1; obtain rfl := Option.some.inj H; have hcz62_0 : wr.cell? ⟨gb115, 0, none⟩ = some (.int .u32 a0_0) := (zai BK115.out 0).trans rfl; have hcz62_1 : wr.cell? ⟨gb115, 1, none⟩ = some (.slice A0_1 l0_1.length c0_1) := (zai BK115.out 1).trans rfl; have hfz62_0 := zah BK115.out 0; have hfz62_1 := zah BK115.out 1
            go_wp2_with (first | ((with_reducible refine za0 (f := 27) rfl ?_); refine zbm (some 73) rfl rfl Try.func27 (by kernel_rfl) rfl #[.agg #[.int .u32 a0_0, .slice A0_1 l0_1.length c0_1]] rfl (by first | done | rfl | (simp only [List.map_toArray, List.map_cons, List.map_nil, List.length_drop, List.length_take]; rfl)) ?_; (with_reducible refine (image_Image_entry.calls a0_0 _ _ l0_1 false _ ?side1 ?side2 A58.out).mono ?_); (case side1 => repeat (first | exact (Kd.za7 HR0_1.out HB.out) | (with_reducible refine Kd.za2 ?_ _) | (with_reducible refine Kd.za1 ?_ _) | (with_reducible refine Kd.za9 ?_))); (case side2 => exact HC0_1.out); rintro e w63 ⟨rfl, hb⟩; refine ⟨_, rfl, ?_⟩; have n0_ := Aside0.mk (zaq (g := gb115) (o := .cells #[.int .u32 a0_0, .slice A0_1 l0_1.length c0_1] 26 (0, 0)) (by (with_reducible repeat (first | refine zae ?_ _ | refine zaj ?_ | refine zad ?_ _)); exact BK115.out) hb); have n1_ := Aside0.mk (zam (by with_reducible repeat (first | exact HB.out | apply zab | apply zaa | apply zac | refine zaf ?_ GE115.out)) hb); clear BK115; clear HB; have BK115 := n0_; have HB := n1_; clear n0_ n1_; (try clear hb); (try clear hb2); (try clear hk); (try clear hi)))
            go_ret
            exact ⟨by first | rfl | (simp [*]; done) | (simp [*, zaz, zay] <;> rfl), by repeat (first | (with_reducible first | exact HB.out | apply zab | apply zaa | apply zac | refine zaf ?_ GE115.out) | exact HB.out)⟩
          rw [if_pos c28] at H; have c28b0 : decide (x52_2 < (l0_1.length : Int)) = true := decide_eq_true c28; clear c28
          by_cases c29 : 0 ≤ x52_2
          rotate_left
          · rw [if_neg c29] at H
            exact absurd H (by simp)
          rw [if_pos c29] at H; have c29b0 : decide (0 ≤ x52_2) = true := decide_eq_true c29; clear c29
          by_cases c30 : x52_2 < (l0_1.length : Int)
          rotate_left
          · rw [if_neg c30] at H
            exact absurd H (by simp)
          rw [if_pos c30] at H; have c30b0 : decide (x52_2 < (l0_1.length : Int)) = true := decide_eq_true c30; clear c30; have c31b0 := eq_true (of_decide_eq_true (by assumption) : 0 ≤ x52_2)
          by_cases c32 : x52_2 ≤ (l0_1.length : Int)
          rotate_left
          · rw [if_neg c32] at H
            exact absurd H (by simp)
          rw [if_pos c32] at H; have c32b0 := eq_true c32; have c32b1 : decide (x52_2 ≤ (l0_1.length : Int)) = true := decide_eq_true c32; clear c32
          obtain ⟨y122, hy122⟩ : ∃ y_ : List (S30), y_ = (l0_1.take (x52_2 : Int).toNat) := ⟨_, rfl⟩
          replace H : (image_Good.l2 k2 l0_1 (l0_1.length : Int) x52_2 y122 (y122.length : Int) 0 a0_0 l0_1 ((zan l0_1 x52_2).f0) ((zan l0_1 x52_2).f1) ((zan l0_1 x52_2).f2) ((zan l0_1 x52_2).f3)) = some r := by first | (rw [hy122]; with_reducible exact H) | (have H2_ := (Option.bind_some _ _).symm.trans H; rw [hy122]; with_reducible exact H2_) | (have H2_ := (Option.bind_some _ _).symm.trans H; with_reducible exact H2_) | with_reducible exact H | (rw [hy122]; exact H) | exact H
          have Ny122 := Aside0.mk hy122; clear hy122
          have H' := Aside0.mk H
          clear H; have p120 : 0 ≤ (x52_2 : Int) := of_decide_eq_true (by assumption); have q120 : x52_2 < (l0_1.length : Int) := of_decide_eq_true (by assumption); obtain ⟨ad120, A120_3, c120_3, e120, hx120_0, hx120_1, hx120_2, hx120_3, hl120_3, hi120_3⟩ := zd4 HR0_1.out x52_2 p120 q120; cases e120
          replace hx120_0 := (HB.out.cell (World.block_lt_of_cell? w _ hx120_0)).trans hx120_0
          replace hx120_1 := (HB.out.cell (World.block_lt_of_cell? w _ hx120_1)).trans hx120_1
          replace hx120_2 := (HB.out.cell (World.block_lt_of_cell? w _ hx120_2)).trans hx120_2
          replace hx120_3 := (HB.out.cell (World.block_lt_of_cell? w _ hx120_3)).trans hx120_3
          have HR120_3 := Aside0.mk hi120_3; have HC120_3 := Aside0.mk hl120_3; clear hi120_3 hl120_3
          replace p120 := eq_true p120
          replace q120 := eq_true q120
          go_wp2_with (first | ((with_reducible refine zax (N := 8) rfl ?_); refine zau ?hg (N := 8) ?hd (cs := #[.int .u32 0, .int .u32 0, .int .i64 0, .slice none 0 0]) (t := 30) ?hr ?_; (case hd => rfl); (case hg => rfl); (case hr => first | (go_simp; done) | (go_simp; rfl)); intro gb121 hg w33 hbox hb; have n0_ := Aside0.mk (zaq (g := gb115) (o := .cells #[.int .u32 a0_0, .slice (some ad120) l0_1.length c0_1] 26 (0, 0)) (by (with_reducible repeat (first | refine zae ?_ _ | refine zaj ?_ | refine zad ?_ _)); exact BK115.out) hb); have n1_ := Aside0.mk (zam (by with_reducible repeat (first | exact HB.out | apply zab | apply zaa | apply zac | refine zaf ?_ GE115.out)) hb); have n2_ := Aside0.mk (hbox); have n3_ := Aside0.mk ((by rw [hg]; exact (zak (by with_reducible repeat (first | exact HB.out | apply zab | apply zaa | apply zac | refine zaf ?_ GE115.out))) : w.heap.size ≤ gb121)); have n4_ := Aside0.mk ((by rw [hg]; exact (zak (by with_reducible repeat (first | exact HB.out | apply zab | apply zaa | apply zac | refine zaf ?_ GE115.out))) : w.heap.size ≤ gb121)); have n5_ := Aside0.mk ((by rw [hg]; exact Nat.ne_of_lt (za3 (g := gb115) (o := .cells #[.int .u32 a0_0, .slice (some ad120) l0_1.length c0_1] 26 (0, 0)) (by (with_reducible repeat (first | refine zae ?_ _ | refine zaj ?_ | refine zad ?_ _)); exact BK115.out)) : gb115 ≠ gb121)); have n6_ := Aside0.mk ((by rw [hg]; exact Nat.ne_of_gt (za3 (g := gb115) (o := .cells #[.int .u32 a0_0, .slice (some ad120) l0_1.length c0_1] 26 (0, 0)) (by (with_reducible repeat (first | refine zae ?_ _ | refine zaj ?_ | refine zad ?_ _)); exact BK115.out)) : gb121 ≠ gb115)); clear BK115; clear HB; have BK115 := n0_; have HB := n1_; have BK121 := n2_; have GW121 := n3_; have GE121 := n4_; have NB115_121 := n5_; have NB121_115 := n6_; clear n0_ n1_ n2_ n3_ n4_ n5_ n6_; clear hb hbox hg; have hnb34 := NB121_115.out; have hnc34 := NB115_121.out; have hcz35_0 : w33.cell? ⟨gb121, 0, none⟩ = some (.int .u32 0) := (zai BK121.out 0).trans rfl; have hcz35_1 : w33.cell? ⟨gb121, 1, none⟩ = some (.int .u32 0) := (zai BK121.out 1).trans rfl; have hcz35_2 : w33.cell? ⟨gb121, 2, none⟩ = some (.int .i64 0) := (zai BK121.out 2).trans rfl; have hcz35_3 : w33.cell? ⟨gb121, 3, none⟩ = some (.slice none 0 0) := (zai BK121.out 3).trans rfl; have hfz35_0 := zah BK121.out 0; have hfz35_1 := zah BK121.out 1; have hfz35_2 := zah BK121.out 2; have hfz35_3 := zah BK121.out 3) | ((with_reducible refine zdg (t := 30) (p := 8) rfl ?_); refine zc2 (t := 30) (p := 8) (v := ?vo_w36) (w1 := ((((w33.setCell ⟨gb121, 0, none⟩ (.int .u32 ((zan l0_1 x52_2).f0))).setCell ⟨gb121, 1, none⟩ (.int .u32 ((zan l0_1 x52_2).f1))).setCell ⟨gb121, 2, none⟩ (.int .i64 ((zan l0_1 x52_2).f2))).setCell ⟨gb121, 3, none⟩ (.slice A120_3 ((zan l0_1 x52_2).f3).length c120_3))) ?hg ?ho ?hn ?hr ?_; (case ho => rfl); (case hg => rfl); (case hn => rfl); (case hr => first | (go_simp; done) | (go_simp; rfl)); intro w36 hw; have n0_ : Aside0 (w36.heap[gb115]? = some (.cells #[.int .u32 a0_0, .slice (some ad120) l0_1.length c0_1] 26 (0, 0))) := ⟨(by rw [hw]; exact (by (with_reducible repeat (first | refine zae ?_ _ | refine zaj ?_ | refine zad ?_ _)); refine za4 ?_ NB115_121.out _; (with_reducible repeat (first | refine zae ?_ _ | refine zaj ?_ | refine zad ?_ _)); refine za4 ?_ NB115_121.out _; (with_reducible repeat (first | refine zae ?_ _ | refine zaj ?_ | refine zad ?_ _)); refine za4 ?_ NB115_121.out _; (with_reducible repeat (first | refine zae ?_ _ | refine zaj ?_ | refine zad ?_ _)); refine za4 ?_ NB115_121.out _; (with_reducible repeat (first | refine zae ?_ _ | refine zaj ?_ | refine zad ?_ _)); exact BK115.out))⟩; have n1_ : Aside0 (w36.heap[gb121]? = some (.cells #[.int .u32 ((zan l0_1 x52_2).f0), .int .u32 ((zan l0_1 x52_2).f1), .int .i64 ((zan l0_1 x52_2).f2), .slice A120_3 ((zan l0_1 x52_2).f3).length c120_3] 30 (0, 0))) := ⟨(by rw [hw]; exact (by (with_reducible repeat (first | refine zae ?_ _ | refine zaj ?_ | refine zad ?_ _)); refine za8 (cs := #[.int .u32 ((zan l0_1 x52_2).f0), .int .u32 ((zan l0_1 x52_2).f1), .int .i64 ((zan l0_1 x52_2).f2), .slice none 0 0]) ?_ 3 _ rfl; (with_reducible repeat (first | refine zae ?_ _ | refine zaj ?_ | refine zad ?_ _)); refine za8 (cs := #[.int .u32 ((zan l0_1 x52_2).f0), .int .u32 ((zan l0_1 x52_2).f1), .int .i64 0, .slice none 0 0]) ?_ 2 _ rfl; (with_reducible repeat (first | refine zae ?_ _ | refine zaj ?_ | refine zad ?_ _)); refine za8 (cs := #[.int .u32 ((zan l0_1 x52_2).f0), .int .u32 0, .int .i64 0, .slice none 0 0]) ?_ 1 _ rfl; (with_reducible repeat (first | refine zae ?_ _ | refine zaj ?_ | refine zad ?_ _)); refine za8 (cs := #[.int .u32 0, .int .u32 0, .int .i64 0, .slice none 0 0]) ?_ 0 _ rfl; (with_reducible repeat (first | refine zae ?_ _ | refine zaj ?_ | refine zad ?_ _)); exact BK121.out))⟩; have n2_ : Aside0 (Below w.heap.size w w36) := ⟨(by rw [hw]; exact (by with_reducible repeat (first | exact HB.out | apply zab | apply zaa | apply zac | refine zaf ?_ GE115.out | refine zaf ?_ GE121.out)))⟩; clear hw; clear BK115; clear BK121; clear HB; have BK115 := n0_; have BK121 := n1_; have HB := n2_; clear n0_ n1_ n2_; have hcz37_0 : w36.cell? ⟨gb115, 0, none⟩ = some (.int .u32 a0_0) := (zai BK115.out 0).trans rfl; have hcz37_1 : w36.cell? ⟨gb115, 1, none⟩ = some (.slice (some ad120) l0_1.length c0_1) := (zai BK115.out 1).trans rfl; have hfz37_0 := zah BK115.out 0; have hfz37_1 := zah BK115.out 1; have q38 : (x52_2 : Int) ≤ ((l0_1.length : Int) : Int) := of_decide_eq_true (by assumption); obtain ⟨i038, hi038, _, hsz38, _⟩ := info_parts info30; have hroom38 : l0_1.length ≤ c0_1 := HC0_1.out; have hC38 : Kd.C k30 _ (some ad120) l0_1.length l0_1 := HR0_1.out; have hcut38 := cut_to (P := Try.prog) 24 30 .i64 Try.underlying24 hi038 (some ad120) l0_1.length c0_1 x52_2 (of_decide_eq_true (by assumption)) q38 hroom38; have hr38 := Kd.C_take (m := (x52_2 : Int).toNat) hC38 (by omega); have hy38 : y122.length = (x52_2 : Int).toNat := (by rw [Ny122.out, List.length_take]; omega); rw [← Ny122.out] at hr38; rw [← hy38] at hcut38; have HR125 := Aside0.mk hr38; have HC125 := Aside0.mk (show y122.length ≤ c0_1 from by omega); clear hr38 hC38 hroom38 hi038 hsz38; have KY38 := Aside0.mk hy38; clear hy38; replace q38 := eq_true q38))
          go_loopg [62] k2 (fun kq v62 w' => ∃ (x62_3 : Int), v62 = .int .i64 x62_3 ∧ Aside0 (image_Good.l2 kq l0_1 (l0_1.length : Int) x52_2 y122 (y122.length : Int) x62_3 a0_0 l0_1 ((zan l0_1 x52_2).f0) ((zan l0_1 x52_2).f1) ((zan l0_1 x52_2).f2) ((zan l0_1 x52_2).f3) = some r) ∧ Aside0 (kq ≤ k2) ∧ Aside0 (w'.heap[gb115]? = some (.cells #[.int .u32 a0_0, (.slice (some ad120) l0_1.length c0_1)] 26 (0, 0))) ∧ Aside0 (w'.heap[gb121]? = some (.cells #[.int .u32 ((zan l0_1 x52_2).f0), .int .u32 ((zan l0_1 x52_2).f1), .int .i64 ((zan l0_1 x52_2).f2), (.slice A120_3 ((zan l0_1 x52_2).f3).length c120_3)] 30 (0, 0))) ∧ Aside0 (Below w.heap.size w w'))
          case atStart => exact ⟨(0), (by first | rfl | (simp; done) | (simp [*]; done)), H', ⟨Nat.le_refl _⟩, ⟨by (with_reducible repeat (first | refine zae ?_ _ | refine zaj ?_ | refine zad ?_ _)); exact BK115.out⟩, ⟨by (with_reducible repeat (first | refine zae ?_ _ | refine zaj ?_ | refine zad ?_ _)); exact BK121.out⟩, ⟨by repeat (first | (with_reducible first | exact HB.out | apply zab | apply zaa | apply zac | refine zaf ?_ GE115.out | refine zaf ?_ GE121.out) | exact HB.out)⟩⟩
          case round =>
            clear H'
            try clear c1
            try clear p1
            try clear q1
            try clear hx1
            try clear c2
            try clear c2b0
            try clear c2b1
            try clear p2
            try clear c3
            try clear q3
            try clear p6
            try clear c7
            try clear c7b0
            try clear c8
            try clear c8b0
            try clear c9
            try clear c9b0
            try clear c11
            try clear p11
            try clear q11
            try clear hx11
            try clear c12
            try clear p12
            try clear q12
            try clear hx12
            try clear c13
            try clear c18
            try clear c21
            try clear c21b0
            try clear c21b1
            try clear c21b2
            try clear c23
            try clear c23b0
            try clear c25
            try clear c25b0
            try clear c28
            try clear c28b0
            try clear c29
            try clear c29b0
            try clear c30
            try clear c30b0
            try clear c31
            try clear c31b0
            try clear c32
            try clear c32b0
            try clear c32b1
            try clear c34
            try clear q38
            try clear hcz14_0
            try clear hcz14_1
            try clear hcz14_2
            try clear hcz14_3
            try clear hcz16_0
            try clear hcz16_1
            try clear hcz16_2
            try clear hcz16_3
            try clear hcz19_0
            try clear hcz19_1
            try clear hcz19_2
            try clear hcz19_3
            try clear hcz22_0
            try clear hcz22_1
            try clear hcz24_0
            try clear hcz24_1
            try clear hcz26_0
            try clear hcz26_1
            try clear hcz27_0
            try clear hcz27_1
            try clear hcz35_0
            try clear hcz35_1
            try clear hcz35_2
            try clear hcz35_3
            try clear hcz37_0
            try clear hcz37_1
            try clear hcz4_0
            try clear hcz4_1
            try clear hcz6_0
            try clear hcz6_1
            try clear hfz14_0
            try clear hfz14_1
            try clear hfz14_2
            try clear hfz14_3
            try clear hfz16_0
            try clear hfz16_1
            try clear hfz16_2
            try clear hfz16_3
            try clear hfz19_0
            try clear hfz19_1
            try clear hfz19_2
            try clear hfz19_3
            try clear hfz22_0
            try clear hfz22_1
            try clear hfz24_0
            try clear hfz24_1
            try clear hfz26_0
            try clear hfz26_1
            try clear hfz27_0
            try clear hfz27_1
            try clear hfz35_0
            try clear hfz35_1
            try clear hfz35_2
            try clear hfz35_3
            try clear hfz37_0
            try clear hfz37_1
            try clear hfz4_0
            try clear hfz4_1
            try clear hfz6_0
            try clear hfz6_1
            try clear hx116_0
            try clear hx116_1
            try clear hx116_2
            try clear hx116_3
            try clear hx120_0
            try clear hx120_1
            try clear hx120_2
            try clear hx120_3
            try clear p1
            try clear p11
            try clear p116
            try clear p120
            try clear p2
            try clear p6
            try clear q1
            try clear q11
            try clear q116
            try clear q120
            try clear q38
            obtain ⟨x62_3, rfl, HA, HK3, BK115, BK121, HB⟩ := hrel
            cases gk with
            | zero => exact absurd HA.out (by simp [image_Good.l2])
            | succ k3 =>
              have H := HA.out; clear HA; simp only [image_Good.l2] at H
              by_cases c39 : x62_3 < (y122.length : Int)
              rotate_left
              · rw [if_neg c39] at H
                have c39b0 : decide (x62_3 < (y122.length : Int)) = false := decide_eq_false c39; clear c39
                have H' := Aside0.mk H
                clear H; go_wp2
                go_roundg k3
                case measure => have := HK1.out; have := HK2.out; have := HK3.out; omega
                case rel => exact ⟨(wrap64 (x52_2 + 1)), (by first | rfl | (simp; done) | (simp [*]; done)), H', ⟨by have := HK1.out; have := HK2.out; have := HK3.out; omega⟩, ⟨by (with_reducible repeat (first | refine zae ?_ _ | refine zaj ?_ | refine zad ?_ _)); exact BK115.out⟩, ⟨by repeat (first | (with_reducible first | exact HB.out | apply zab | apply zaa | apply zac | refine zaf ?_ GE115.out | refine zaf ?_ GE121.out) | exact HB.out)⟩⟩
              rw [if_pos c39] at H; have c39b0 : decide (x62_3 < (y122.length : Int)) = true := decide_eq_true c39; clear c39
              by_cases c40 : 0 ≤ x62_3
              rotate_left
              · rw [if_neg c40] at H
                exact absurd H (by simp)
              rw [if_pos c40] at H; have c40b0 : decide (0 ≤ x62_3) = true := decide_eq_true c40; clear c40
              by_cases c41 : x62_3 < (y122.length : Int)
              rotate_left
              · rw [if_neg c41] at H
                exact absurd H (by simp)
              rw [if_pos c41] at H; have c41b0 : decide (x62_3 < (y122.length : Int)) = true := decide_eq_true c41; clear c41
              replace H := Option.bind_eq_some_iff.mp H
              obtain ⟨t128, A420, H⟩ := H; replace H : (if t128 = true then (image_Good.l2 k3 l0_1 (l0_1.length : Int) x52_2 y122 (y122.length : Int) (wrap64 (x62_3 + 1)) a0_0 l0_1 ((zan l0_1 x52_2).f0) ((zan l0_1 x52_2).f1) ((zan l0_1 x52_2).f2) ((zan l0_1 x52_2).f3)) else (some 1)) = some r := H; have A42 := Aside0.mk A420; clear A420
              by_cases c43 : t128 = true
              rotate_left
              · replace c43 := Bool.eq_false_iff.mpr c43
                subst c43
                have H1 : (some 1) = some r := by rw [if_neg (show ¬ (false = true) by decide)] at H; exact H
                clear H; have H := H1; clear H1; obtain rfl := Option.some.inj H; have p126 : 0 ≤ (x62_3 : Int) := of_decide_eq_true (by assumption); have q126 : x62_3 < (y122.length : Int) := of_decide_eq_true (by assumption); obtain ⟨ad126, A126_3, c126_3, e126, hx126_0, hx126_1, hx126_2, hx126_3, hl126_3, hi126_3⟩ := zd4 HR125.out x62_3 p126 q126; obtain rfl : ad120 = ad126 := (by injection e126)
                replace hx126_0 := (HB.out.cell (World.block_lt_of_cell? w _ hx126_0)).trans hx126_0
                replace hx126_1 := (HB.out.cell (World.block_lt_of_cell? w _ hx126_1)).trans hx126_1
                replace hx126_2 := (HB.out.cell (World.block_lt_of_cell? w _ hx126_2)).trans hx126_2
                replace hx126_3 := (HB.out.cell (World.block_lt_of_cell? w _ hx126_3)).trans hx126_3
                have HR126_3 := Aside0.mk hi126_3; have HC126_3 := Aside0.mk hl126_3; clear hi126_3 hl126_3
                replace p126 := eq_true p126
                replace q126 := eq_true q126
                go_wp2_with (first | ((with_reducible refine zax (N := 10) rfl ?_); refine zau ?hg (N := 10) ?hd (cs := #[.int .u32 0, .int .u32 0, .int .i64 0, .slice none 0 0]) (t := 30) ?hr ?_; (case hd => rfl); (case hg => rfl); (case hr => first | (go_simp; done) | (go_simp; rfl)); intro gb127 hg w51 hbox hb; have n0_ := Aside0.mk (zaq (g := gb115) (o := .cells #[.int .u32 a0_0, .slice (some ad120) l0_1.length c0_1] 26 (0, 0)) (by (with_reducible repeat (first | refine zae ?_ _ | refine zaj ?_ | refine zad ?_ _)); exact BK115.out) hb); have n1_ := Aside0.mk (zaq (g := gb121) (o := .cells #[.int .u32 ((zan l0_1 x52_2).f0), .int .u32 ((zan l0_1 x52_2).f1), .int .i64 ((zan l0_1 x52_2).f2), .slice A120_3 ((zan l0_1 x52_2).f3).length c120_3] 30 (0, 0)) (by (with_reducible repeat (first | refine zae ?_ _ | refine zaj ?_ | refine zad ?_ _)); exact BK121.out) hb); have n2_ := Aside0.mk (zam (by with_reducible repeat (first | exact HB.out | apply zab | apply zaa | apply zac | refine zaf ?_ GE115.out | refine zaf ?_ GE121.out)) hb); have n3_ := Aside0.mk (hbox); have n4_ := Aside0.mk ((by rw [hg]; exact (zak (by with_reducible repeat (first | exact HB.out | apply zab | apply zaa | apply zac | refine zaf ?_ GE115.out | refine zaf ?_ GE121.out))) : w.heap.size ≤ gb127)); have n5_ := Aside0.mk ((by rw [hg]; exact (zak (by with_reducible repeat (first | exact HB.out | apply zab | apply zaa | apply zac | refine zaf ?_ GE115.out | refine zaf ?_ GE121.out))) : w.heap.size ≤ gb127)); have n6_ := Aside0.mk ((by rw [hg]; exact Nat.ne_of_lt (za3 (g := gb115) (o := .cells #[.int .u32 a0_0, .slice (some ad120) l0_1.length c0_1] 26 (0, 0)) (by (with_reducible repeat (first | refine zae ?_ _ | refine zaj ?_ | refine zad ?_ _)); exact BK115.out)) : gb115 ≠ gb127)); have n7_ := Aside0.mk ((by rw [hg]; exact Nat.ne_of_gt (za3 (g := gb115) (o := .cells #[.int .u32 a0_0, .slice (some ad120) l0_1.length c0_1] 26 (0, 0)) (by (with_reducible repeat (first | refine zae ?_ _ | refine zaj ?_ | refine zad ?_ _)); exact BK115.out)) : gb127 ≠ gb115)); have n8_ := Aside0.mk ((by rw [hg]; exact Nat.ne_of_lt (za3 (g := gb121) (o := .cells #[.int .u32 ((zan l0_1 x52_2).f0), .int .u32 ((zan l0_1 x52_2).f1), .int .i64 ((zan l0_1 x52_2).f2), .slice A120_3 ((zan l0_1 x52_2).f3).length c120_3] 30 (0, 0)) (by (with_reducible repeat (first | refine zae ?_ _ | refine zaj ?_ | refine zad ?_ _)); exact BK121.out)) : gb121 ≠ gb127)); have n9_ := Aside0.mk ((by rw [hg]; exact Nat.ne_of_gt (za3 (g := gb121) (o := .cells #[.int .u32 ((zan l0_1 x52_2).f0), .int .u32 ((zan l0_1 x52_2).f1), .int .i64 ((zan l0_1 x52_2).f2), .slice A120_3 ((zan l0_1 x52_2).f3).length c120_3] 30 (0, 0)) (by (with_reducible repeat (first | refine zae ?_ _ | refine zaj ?_ | refine zad ?_ _)); exact BK121.out)) : gb127 ≠ gb121)); clear BK115; clear BK121; clear HB; have BK115 := n0_; have BK121 := n1_; have HB := n2_; have BK127 := n3_; have GW127 := n4_; have GE127 := n5_; have NB115_127 := n6_; have NB127_115 := n7_; have NB121_127 := n8_; have NB127_121 := n9_; clear n0_ n1_ n2_ n3_ n4_ n5_ n6_ n7_ n8_ n9_; clear hb hbox hg; have hnb52 := NB127_115.out; have hnc52 := NB115_127.out; have hnb53 := NB127_121.out; have hnc53 := NB121_127.out; have hcz54_0 : w51.cell? ⟨gb127, 0, none⟩ = some (.int .u32 0) := (zai BK127.out 0).trans rfl; have hcz54_1 : w51.cell? ⟨gb127, 1, none⟩ = some (.int .u32 0) := (zai BK127.out 1).trans rfl; have hcz54_2 : w51.cell? ⟨gb127, 2, none⟩ = some (.int .i64 0) := (zai BK127.out 2).trans rfl; have hcz54_3 : w51.cell? ⟨gb127, 3, none⟩ = some (.slice none 0 0) := (zai BK127.out 3).trans rfl; have hfz54_0 := zah BK127.out 0; have hfz54_1 := zah BK127.out 1; have hfz54_2 := zah BK127.out 2; have hfz54_3 := zah BK127.out 3; have hnb55 := NB121_115.out; have hnc55 := NB115_121.out; have hcz56_0 : w51.cell? ⟨gb121, 0, none⟩ = some (.int .u32 ((zan l0_1 x52_2).f0)) := (zai BK121.out 0).trans rfl; have hcz56_1 : w51.cell? ⟨gb121, 1, none⟩ = some (.int .u32 ((zan l0_1 x52_2).f1)) := (zai BK121.out 1).trans rfl; have hcz56_2 : w51.cell? ⟨gb121, 2, none⟩ = some (.int .i64 ((zan l0_1 x52_2).f2)) := (zai BK121.out 2).trans rfl; have hcz56_3 : w51.cell? ⟨gb121, 3, none⟩ = some (.slice A120_3 ((zan l0_1 x52_2).f3).length c120_3) := (zai BK121.out 3).trans rfl; have hfz56_0 := zah BK121.out 0; have hfz56_1 := zah BK121.out 1; have hfz56_2 := zah BK121.out 2; have hfz56_3 := zah BK121.out 3) | ((with_reducible refine za0 (f := 26) rfl ?_); refine zbm (some 68) rfl rfl Try.func26 (by kernel_rfl) rfl #[.agg #[.int .u32 ((zan l0_1 x52_2).f0), .int .u32 ((zan l0_1 x52_2).f1), .int .i64 ((zan l0_1 x52_2).f2), .slice A120_3 ((zan l0_1 x52_2).f3).length c120_3], .agg #[.int .u32 ((zan y122 x62_3).f0), .int .u32 ((zan y122 x62_3).f1), .int .i64 ((zan y122 x62_3).f2), .slice A126_3 ((zan y122 x62_3).f3).length c126_3]] rfl (by first | done | rfl | (simp only [List.map_toArray, List.map_cons, List.map_nil, List.length_drop, List.length_take]; rfl)) ?_; (with_reducible refine (image_apart.calls ((zan l0_1 x52_2).f0) ((zan l0_1 x52_2).f1) ((zan l0_1 x52_2).f2) _ _ ((zan l0_1 x52_2).f3) ((zan y122 x62_3).f0) ((zan y122 x62_3).f1) ((zan y122 x62_3).f2) _ _ ((zan y122 x62_3).f3) false _ ?side1 ?side2 ?side3 ?side4 A42.out).mono ?_); (case side1 => exact Kd.za7 HR120_3.out (by with_reducible repeat (first | exact HB.out | apply zab | apply zaa | apply zac | refine zaf ?_ GE115.out | refine zaf ?_ GE121.out | refine zaf ?_ GE127.out))); (case side2 => exact HC120_3.out); (case side3 => exact Kd.za7 HR126_3.out (by with_reducible repeat (first | exact HB.out | apply zab | apply zaa | apply zac | refine zaf ?_ GE115.out | refine zaf ?_ GE121.out | refine zaf ?_ GE127.out))); (case side4 => exact HC126_3.out); rintro e w57 ⟨rfl, hb⟩; refine ⟨_, rfl, ?_⟩; have n0_ := Aside0.mk (zaq (g := gb115) (o := .cells #[.int .u32 a0_0, .slice (some ad120) l0_1.length c0_1] 26 (0, 0)) (by (with_reducible repeat (first | refine zae ?_ _ | refine zaj ?_ | refine zad ?_ _)); refine za4 ?_ NB115_127.out _; (with_reducible repeat (first | refine zae ?_ _ | refine zaj ?_ | refine zad ?_ _)); refine za4 ?_ NB115_127.out _; (with_reducible repeat (first | refine zae ?_ _ | refine zaj ?_ | refine zad ?_ _)); refine za4 ?_ NB115_127.out _; (with_reducible repeat (first | refine zae ?_ _ | refine zaj ?_ | refine zad ?_ _)); refine za4 ?_ NB115_127.out _; (with_reducible repeat (first | refine zae ?_ _ | refine zaj ?_ | refine zad ?_ _)); exact BK115.out) hb); have n1_ := Aside0.mk (zaq (g := gb121) (o := .cells #[.int .u32 ((zan l0_1 x52_2).f0), .int .u32 ((zan l0_1 x52_2).f1), .int .i64 ((zan l0_1 x52_2).f2), .slice A120_3 ((zan l0_1 x52_2).f3).length c120_3] 30 (0, 0)) (by (with_reducible repeat (first | refine zae ?_ _ | refine zaj ?_ | refine zad ?_ _)); refine za4 ?_ NB121_127.out _; (with_reducible repeat (first | refine zae ?_ _ | refine zaj ?_ | refine zad ?_ _)); refine za4 ?_ NB121_127.out _; (with_reducible repeat (first | refine zae ?_ _ | refine zaj ?_ | refine zad ?_ _)); refine za4 ?_ NB121_127.out _; (with_reducible repeat (first | refine zae ?_ _ | refine zaj ?_ | refine zad ?_ _)); refine za4 ?_ NB121_127.out _; (with_reducible repeat (first | refine zae ?_ _ | refine zaj ?_ | refine zad ?_ _)); exact BK121.out) hb); have n2_ := Aside0.mk (zaq (g := gb127) (o := .cells #[.int .u32 ((zan y122 x62_3).f0), .int .u32 ((zan y122 x62_3).f1), .int .i64 ((zan y122 x62_3).f2), .slice A126_3 ((zan y122 x62_3).f3).length c126_3] 30 (0, 0)) (by (with_reducible repeat (first | refine zae ?_ _ | refine zaj ?_ | refine zad ?_ _)); refine za8 (cs := #[.int .u32 ((zan y122 x62_3).f0), .int .u32 ((zan y122 x62_3).f1), .int .i64 ((zan y122 x62_3).f2), .slice none 0 0]) ?_ 3 _ rfl; (with_reducible repeat (first | refine zae ?_ _ | refine zaj ?_ | refine zad ?_ _)); refine za8 (cs := #[.int .u32 ((zan y122 x62_3).f0), .int .u32 ((zan y122 x62_3).f1), .int .i64 0, .slice none 0 0]) ?_ 2 _ rfl; (with_reducible repeat (first | refine zae ?_ _ | refine zaj ?_ | refine zad ?_ _)); refine za8 (cs := #[.int .u32 ((zan y122 x62_3).f0), .int .u32 0, .int .i64 0, .slice none 0 0]) ?_ 1 _ rfl; (with_reducible repeat (first | refine zae ?_ _ | refine zaj ?_ | refine zad ?_ _)); refine za8 (cs := #[.int .u32 0, .int .u32 0, .int .i64 0, .slice none 0 0]) ?_ 0 _ rfl; (with_reducible repeat (first | refine zae ?_ _ | refine zaj ?_ | refine zad ?_ _)); exact BK127.out) hb); have n3_ := Aside0.mk (zam (by with_reducible repeat (first | exact HB.out | apply zab | apply zaa | apply zac | refine zaf ?_ GE115.out | refine zaf ?_ GE121.out | refine zaf ?_ GE127.out)) hb); clear BK115; clear BK121; clear BK127; clear HB; have BK115 := n0_; have BK121 := n1_; have BK127 := n2_; have HB := n3_; clear n0_ n1_ n2_ n3_; (try clear hb); (try clear hb2); (try clear hk); (try clear hi)))
                go_ret
                exact ⟨by first | rfl | (simp [*]; done) | (simp [*, zaz, zay] <;> rfl), by repeat (first | (with_reducible first | exact HB.out | apply zab | apply zaa | apply zac | refine zaf ?_ GE115.out | refine zaf ?_ GE121.out | refine zaf ?_ GE127.out) | exact HB.out)⟩
              subst c43
              have H1 : (image_Good.l2 k3 l0_1 (l0_1.length : Int) x52_2 y122 (y122.length : Int) (wrap64 (x62_3 + 1)) a0_0 l0_1 ((zan l0_1 x52_2).f0) ((zan l0_1 x52_2).f1) ((zan l0_1 x52_2).f2) ((zan l0_1 x52_2).f3)) = some r := by rw [if_pos rfl] at H; exact H
              clear H; have H := H1; clear H1
              have H' := Aside0.mk H
              clear H; have p126 : 0 ≤ (x62_3 : Int) := of_decide_eq_true (by assumption); have q126 : x62_3 < (y122.length : Int) := of_decide_eq_true (by assumption); obtain ⟨ad126, A126_3, c126_3, e126, hx126_0, hx126_1, hx126_2, hx126_3, hl126_3, hi126_3⟩ := zd4 HR125.out x62_3 p126 q126; obtain rfl : ad120 = ad126 := (by injection e126)
              replace hx126_0 := (HB.out.cell (World.block_lt_of_cell? w _ hx126_0)).trans hx126_0
              replace hx126_1 := (HB.out.cell (World.block_lt_of_cell? w _ hx126_1)).trans hx126_1
              replace hx126_2 := (HB.out.cell (World.block_lt_of_cell? w _ hx126_2)).trans hx126_2
              replace hx126_3 := (HB.out.cell (World.block_lt_of_cell? w _ hx126_3)).trans hx126_3
              have HR126_3 := Aside0.mk hi126_3; have HC126_3 := Aside0.mk hl126_3; clear hi126_3 hl126_3
              replace p126 := eq_true p126
              replace q126 := eq_true q126
              go_wp2_with (first | ((with_reducible refine zax (N := 10) rfl ?_); refine zau ?hg (N := 10) ?hd (cs := #[.int .u32 0, .int .u32 0, .int .i64 0, .slice none 0 0]) (t := 30) ?hr ?_; (case hd => rfl); (case hg => rfl); (case hr => first | (go_simp; done) | (go_simp; rfl)); intro gb127 hg w44 hbox hb; have n0_ := Aside0.mk (zaq (g := gb115) (o := .cells #[.int .u32 a0_0, .slice (some ad120) l0_1.length c0_1] 26 (0, 0)) (by (with_reducible repeat (first | refine zae ?_ _ | refine zaj ?_ | refine zad ?_ _)); exact BK115.out) hb); have n1_ := Aside0.mk (zaq (g := gb121) (o := .cells #[.int .u32 ((zan l0_1 x52_2).f0), .int .u32 ((zan l0_1 x52_2).f1), .int .i64 ((zan l0_1 x52_2).f2), .slice A120_3 ((zan l0_1 x52_2).f3).length c120_3] 30 (0, 0)) (by (with_reducible repeat (first | refine zae ?_ _ | refine zaj ?_ | refine zad ?_ _)); exact BK121.out) hb); have n2_ := Aside0.mk (zam (by with_reducible repeat (first | exact HB.out | apply zab | apply zaa | apply zac | refine zaf ?_ GE115.out | refine zaf ?_ GE121.out)) hb); have n3_ := Aside0.mk (hbox); have n4_ := Aside0.mk ((by rw [hg]; exact (zak (by with_reducible repeat (first | exact HB.out | apply zab | apply zaa | apply zac | refine zaf ?_ GE115.out | refine zaf ?_ GE121.out))) : w.heap.size ≤ gb127)); have n5_ := Aside0.mk ((by rw [hg]; exact (zak (by with_reducible repeat (first | exact HB.out | apply zab | apply zaa | apply zac | refine zaf ?_ GE115.out | refine zaf ?_ GE121.out))) : w.heap.size ≤ gb127)); have n6_ := Aside0.mk ((by rw [hg]; exact Nat.ne_of_lt (za3 (g := gb115) (o := .cells #[.int .u32 a0_0, .slice (some ad120) l0_1.length c0_1] 26 (0, 0)) (by (with_reducible repeat (first | refine zae ?_ _ | refine zaj ?_ | refine zad ?_ _)); exact BK115.out)) : gb115 ≠ gb127)); have n7_ := Aside0.mk ((by rw [hg]; exact Nat.ne_of_gt (za3 (g := gb115) (o := .cells #[.int .u32 a0_0, .slice (some ad120) l0_1.length c0_1] 26 (0, 0)) (by (with_reducible repeat (first | refine zae ?_ _ | refine zaj ?_ | refine zad ?_ _)); exact BK115.out)) : gb127 ≠ gb115)); have n8_ := Aside0.mk ((by rw [hg]; exact Nat.ne_of_lt (za3 (g := gb121) (o := .cells #[.int .u32 ((zan l0_1 x52_2).f0), .int .u32 ((zan l0_1 x52_2).f1), .int .i64 ((zan l0_1 x52_2).f2), .slice A120_3 ((zan l0_1 x52_2).f3).length c120_3] 30 (0, 0)) (by (with_reducible repeat (first | refine zae ?_ _ | refine zaj ?_ | refine zad ?_ _)); exact BK121.out)) : gb121 ≠ gb127)); have n9_ := Aside0.mk ((by rw [hg]; exact Nat.ne_of_gt (za3 (g := gb121) (o := .cells #[.int .u32 ((zan l0_1 x52_2).f0), .int .u32 ((zan l0_1 x52_2).f1), .int .i64 ((zan l0_1 x52_2).f2), .slice A120_3 ((zan l0_1 x52_2).f3).length c120_3] 30 (0, 0)) (by (with_reducible repeat (first | refine zae ?_ _ | refine zaj ?_ | refine zad ?_ _)); exact BK121.out)) : gb127 ≠ gb121)); clear BK115; clear BK121; clear HB; have BK115 := n0_; have BK121 := n1_; have HB := n2_; have BK127 := n3_; have GW127 := n4_; have GE127 := n5_; have NB115_127 := n6_; have NB127_115 := n7_; have NB121_127 := n8_; have NB127_121 := n9_; clear n0_ n1_ n2_ n3_ n4_ n5_ n6_ n7_ n8_ n9_; clear hb hbox hg; have hnb45 := NB127_115.out; have hnc45 := NB115_127.out; have hnb46 := NB127_121.out; have hnc46 := NB121_127.out; have hcz47_0 : w44.cell? ⟨gb127, 0, none⟩ = some (.int .u32 0) := (zai BK127.out 0).trans rfl; have hcz47_1 : w44.cell? ⟨gb127, 1, none⟩ = some (.int .u32 0) := (zai BK127.out 1).trans rfl; have hcz47_2 : w44.cell? ⟨gb127, 2, none⟩ = some (.int .i64 0) := (zai BK127.out 2).trans rfl; have hcz47_3 : w44.cell? ⟨gb127, 3, none⟩ = some (.slice none 0 0) := (zai BK127.out 3).trans rfl; have hfz47_0 := zah BK127.out 0; have hfz47_1 := zah BK127.out 1; have hfz47_2 := zah BK127.out 2; have hfz47_3 := zah BK127.out 3; have hnb48 := NB121_115.out; have hnc48 := NB115_121.out; have hcz49_0 : w44.cell? ⟨gb121, 0, none⟩ = some (.int .u32 ((zan l0_1 x52_2).f0)) := (zai BK121.out 0).trans rfl; have hcz49_1 : w44.cell? ⟨gb121, 1, none⟩ = some (.int .u32 ((zan l0_1 x52_2).f1)) := (zai BK121.out 1).trans rfl; have hcz49_2 : w44.cell? ⟨gb121, 2, none⟩ = some (.int .i64 ((zan l0_1 x52_2).f2)) := (zai BK121.out 2).trans rfl; have hcz49_3 : w44.cell? ⟨gb121, 3, none⟩ = some (.slice A120_3 ((zan l0_1 x52_2).f3).length c120_3) := (zai BK121.out 3).trans rfl; have hfz49_0 := zah BK121.out 0; have hfz49_1 := zah BK121.out 1; have hfz49_2 := zah BK121.out 2; have hfz49_3 := zah BK121.out 3) | ((with_reducible refine za0 (f := 26) rfl ?_); refine zbm (some 68) rfl rfl Try.func26 (by kernel_rfl) rfl #[.agg #[.int .u32 ((zan l0_1 x52_2).f0), .int .u32 ((zan l0_1 x52_2).f1), .int .i64 ((zan l0_1 x52_2).f2), .slice A120_3 ((zan l0_1 x52_2).f3).length c120_3], .agg #[.int .u32 ((zan y122 x62_3).f0), .int .u32 ((zan y122 x62_3).f1), .int .i64 ((zan y122 x62_3).f2), .slice A126_3 ((zan y122 x62_3).f3).length c126_3]] rfl (by first | done | rfl | (simp only [List.map_toArray, List.map_cons, List.map_nil, List.length_drop, List.length_take]; rfl)) ?_; (with_reducible refine (image_apart.calls ((zan l0_1 x52_2).f0) ((zan l0_1 x52_2).f1) ((zan l0_1 x52_2).f2) _ _ ((zan l0_1 x52_2).f3) ((zan y122 x62_3).f0) ((zan y122 x62_3).f1) ((zan y122 x62_3).f2) _ _ ((zan y122 x62_3).f3) true _ ?side1 ?side2 ?side3 ?side4 A42.out).mono ?_); (case side1 => exact Kd.za7 HR120_3.out (by with_reducible repeat (first | exact HB.out | apply zab | apply zaa | apply zac | refine zaf ?_ GE115.out | refine zaf ?_ GE121.out | refine zaf ?_ GE127.out))); (case side2 => exact HC120_3.out); (case side3 => exact Kd.za7 HR126_3.out (by with_reducible repeat (first | exact HB.out | apply zab | apply zaa | apply zac | refine zaf ?_ GE115.out | refine zaf ?_ GE121.out | refine zaf ?_ GE127.out))); (case side4 => exact HC126_3.out); rintro e w50 ⟨rfl, hb⟩; refine ⟨_, rfl, ?_⟩; have n0_ := Aside0.mk (zaq (g := gb115) (o := .cells #[.int .u32 a0_0, .slice (some ad120) l0_1.length c0_1] 26 (0, 0)) (by (with_reducible repeat (first | refine zae ?_ _ | refine zaj ?_ | refine zad ?_ _)); refine za4 ?_ NB115_127.out _; (with_reducible repeat (first | refine zae ?_ _ | refine zaj ?_ | refine zad ?_ _)); refine za4 ?_ NB115_127.out _; (with_reducible repeat (first | refine zae ?_ _ | refine zaj ?_ | refine zad ?_ _)); refine za4 ?_ NB115_127.out _; (with_reducible repeat (first | refine zae ?_ _ | refine zaj ?_ | refine zad ?_ _)); refine za4 ?_ NB115_127.out _; (with_reducible repeat (first | refine zae ?_ _ | refine zaj ?_ | refine zad ?_ _)); exact BK115.out) hb); have n1_ := Aside0.mk (zaq (g := gb121) (o := .cells #[.int .u32 ((zan l0_1 x52_2).f0), .int .u32 ((zan l0_1 x52_2).f1), .int .i64 ((zan l0_1 x52_2).f2), .slice A120_3 ((zan l0_1 x52_2).f3).length c120_3] 30 (0, 0)) (by (with_reducible repeat (first | refine zae ?_ _ | refine zaj ?_ | refine zad ?_ _)); refine za4 ?_ NB121_127.out _; (with_reducible repeat (first | refine zae ?_ _ | refine zaj ?_ | refine zad ?_ _)); refine za4 ?_ NB121_127.out _; (with_reducible repeat (first | refine zae ?_ _ | refine zaj ?_ | refine zad ?_ _)); refine za4 ?_ NB121_127.out _; (with_reducible repeat (first | refine zae ?_ _ | refine zaj ?_ | refine zad ?_ _)); refine za4 ?_ NB121_127.out _; (with_reducible repeat (first | refine zae ?_ _ | refine zaj ?_ | refine zad ?_ _)); exact BK121.out) hb); have n2_ := Aside0.mk (zaq (g := gb127) (o := .cells #[.int .u32 ((zan y122 x62_3).f0), .int .u32 ((zan y122 x62_3).f1), .int .i64 ((zan y122 x62_3).f2), .slice A126_3 ((zan y122 x62_3).f3).length c126_3] 30 (0, 0)) (by (with_reducible repeat (first | refine zae ?_ _ | refine zaj ?_ | refine zad ?_ _)); refine za8 (cs := #[.int .u32 ((zan y122 x62_3).f0), .int .u32 ((zan y122 x62_3).f1), .int .i64 ((zan y122 x62_3).f2), .slice none 0 0]) ?_ 3 _ rfl; (with_reducible repeat (first | refine zae ?_ _ | refine zaj ?_ | refine zad ?_ _)); refine za8 (cs := #[.int .u32 ((zan y122 x62_3).f0), .int .u32 ((zan y122 x62_3).f1), .int .i64 0, .slice none 0 0]) ?_ 2 _ rfl; (with_reducible repeat (first | refine zae ?_ _ | refine zaj ?_ | refine zad ?_ _)); refine za8 (cs := #[.int .u32 ((zan y122 x62_3).f0), .int .u32 0, .int .i64 0, .slice none 0 0]) ?_ 1 _ rfl; (with_reducible repeat (first | refine zae ?_ _ | refine zaj ?_ | refine zad ?_ _)); refine za8 (cs := #[.int .u32 0, .int .u32 0, .int .i64 0, .slice none 0 0]) ?_ 0 _ rfl; (with_reducible repeat (first | refine zae ?_ _ | refine zaj ?_ | refine zad ?_ _)); exact BK127.out) hb); have n3_ := Aside0.mk (zam (by with_reducible repeat (first | exact HB.out | apply zab | apply zaa | apply zac | refine zaf ?_ GE115.out | refine zaf ?_ GE121.out | refine zaf ?_ GE127.out)) hb); clear BK115; clear BK121; clear BK127; clear HB; have BK115 := n0_; have BK121 := n1_; have BK127 := n2_; have HB := n3_; clear n0_ n1_ n2_ n3_; (try clear hb); (try clear hb2); (try clear hk); (try clear hi)))
              go_roundg k3
              case measure => have := HK1.out; have := HK2.out; have := HK3.out; omega
              case rel => exact ⟨(wrap64 (x62_3 + 1)), (by first | rfl | (simp; done) | (simp [*]; done)), H', ⟨by have := HK1.out; have := HK2.out; have := HK3.out; omega⟩, ⟨by (with_reducible repeat (first | refine zae ?_ _ | refine zaj ?_ | refine zad ?_ _)); exact BK115.out⟩, ⟨by (with_reducible repeat (first | refine zae ?_ _ | refine zaj ?_ | refine zad ?_ _)); exact BK121.out⟩, ⟨by repeat (first | (with_reducible first | exact HB.out | apply zab | apply zaa | apply zac | refine zaf ?_ GE115.out | refine zaf ?_ GE121.out | refine zaf ?_ GE127.out) | exact HB.out)⟩⟩
/-! ### image_number: function 20 -/
def image_number.l0 : Nat → List Int → Int → Int → Int → Int → Option (Int)
  | 0, _, _, _, _, _ => none
  | k + 1, x0, x1, x7, x9, x10 => if x10 < x9 then (if 0 ≤ (wrap64 (x1 + x10)) then (if (wrap64 (x1 + x10)) < (x0.length : Int) then (if 0 ≤ (wrap64 (8 * x10)) then (image_number.l0 k x0 x1 (Go.bits .or .u32 x7 (shl .u32 ((rd x0 (wrap64 (x1 + x10))) % 4294967296) (wrap64 (8 * x10)))) x9 (wrap64 (x10 + 1))) else (none)) else (none)) else (none)) else (some x7)
def image_number.f (k : Nat) (l0 : List Int) (a1 : Int) (a2 : Int) : Option (Int) := image_number.l0 k l0 a1 0 a2 0
theorem image_number.zbw : ∀ k, (∀ y0 y1 y2 y3 y4, LeO (image_number.l0 k y0 y1 y2 y3 y4) (image_number.l0 (k + 1) y0 y1 y2 y3 y4))
  | 0 => fun _ _ _ _ _ r h => by simp [image_number.l0] at h
  | k + 1 => by
    have ih0 := image_number.zbw k
    · intro y0 y1 y2 y3 y4
      unfold image_number.l0
      repeat' first
      | (with_reducible exact ih0 _ _ _ _ _)
      | (with_reducible exact LeO.refl _)
      | (with_reducible exact LeO.none _)
      | (with_reducible refine LeO.ite ?_ ?_)
      | (with_reducible refine LeO.bind ?_ (fun _ => ?_))
      | exact ih0 _ _ _ _ _
      | exact LeO.none _
      | refine LeO.ite ?_ ?_
      | refine LeO.bind ?_ (fun _ => ?_)
theorem image_number.mono : ∀ a0 a1 a2 k, LeO (image_number.f k a0 a1 a2) (image_number.f (k + 1) a0 a1 a2) := by
  intro a0 a1 a2 k; have ih0 := image_number.zbw k; unfold image_number.f
  repeat' first
      | (with_reducible exact ih0 _ _ _ _ _)
      | (with_reducible exact LeO.refl _)
      | (with_reducible exact LeO.none _)
      | (with_reducible refine LeO.ite ?_ ?_)
      | (with_reducible refine LeO.bind ?_ (fun _ => ?_))
      | exact ih0 _ _ _ _ _
      | exact LeO.none _
      | refine LeO.ite ?_ ?_
      | refine LeO.bind ?_ (fun _ => ?_)
set_option maxHeartbeats 8000000 in
set_option maxRecDepth 100000 in
theorem image_number.calls (k : Nat) (A0 : Option Addr) (c0 : Nat) (l0 : List Int) (a1 : Int) (a2 : Int) (r : Int) (w : World) (hr0 : Kd.C (Kd.int .u8) w A0 l0.length l0) (hc0 : l0.length ≤ c0) (h : image_number.f k l0 a1 a2 = some r) :
    Calls Try.prog 20 #[.slice A0 l0.length c0, .int .i64 a1, .int .i64 a2] w fun e w' => e = .returned (.int .u32 r) ∧ Drawn0 w w' := by
  have HR0 := Aside0.mk hr0; have HC0 := Aside0.mk hc0; clear hr0 hc0; have H : (image_number.l0 k l0 a1 0 a2 0) = some r := h; clear h
  have H' := Aside0.mk H
  clear H
  go_enter Try.func20, Try.ntmps20
  go_wp2
  go_loopg [7, 10] k (fun kq v7 v10 w' => ∃ (x7_1 : Int) (x10_1 : Int), v7 = .int .u32 x7_1 ∧ v10 = .int .i64 x10_1 ∧ Aside0 (image_number.l0 kq l0 a1 x7_1 a2 x10_1 = some r) ∧ Aside0 (kq ≤ k) ∧ Drawn0 w w')
  case atStart => exact ⟨(0), (0), (by first | rfl | (simp; done) | (simp [*]; done)), (by first | rfl | (simp; done) | (simp [*]; done)), H', ⟨Nat.le_refl _⟩, by repeat (first | exact Drawn0.refl _ | apply Drawn0.step)⟩
  case round =>
    clear H'
    try clear c2
    try clear p2
    obtain ⟨x7_1, x10_1, rfl, rfl, HA, HK1, ⟨m1, rfl⟩⟩ := hrel
    cases gk with
    | zero => exact absurd HA.out (by simp [image_number.l0])
    | succ k1 =>
      have H := HA.out; clear HA; simp only [image_number.l0] at H
      by_cases c4 : x10_1 < a2
      rotate_left
      · rw [if_neg c4] at H
        have c4b0 : decide (x10_1 < a2) = false := decide_eq_false c4; clear c4; obtain rfl := Option.some.inj H; go_wp2
        go_ret
        exact ⟨by first | rfl | (simp; done) | (simp [*]; done), by repeat (first | exact Drawn0.refl _ | apply Drawn0.step)⟩
      rw [if_pos c4] at H; have c4b0 : decide (x10_1 < a2) = true := decide_eq_true c4; clear c4
      obtain ⟨ji5, hji5⟩ : ∃ j_ : Int, (wrap64 (a1 + x10_1)) = j_ := ⟨_, rfl⟩
      replace H : (if 0 ≤ (ji5) then (if (ji5) < (l0.length : Int) then (if 0 ≤ (wrap64 (8 * x10_1)) then (image_number.l0 k1 l0 a1 (Go.bits .or .u32 x7_1 (shl .u32 ((rd l0 (ji5)) % 4294967296) (wrap64 (8 * x10_1)))) a2 (wrap64 (x10_1 + 1))) else (none)) else (none)) else (none)) = some r := by first | (rw [hji5] at H; exact H) | (simp only [hji5] at H ⊢; exact H)
      have hji5w : (IntKind.i64.wrap (a1 + x10_1)) = ji5 := (i64_w _).trans hji5
      by_cases c6 : 0 ≤ (ji5)
      rotate_left
      · rw [if_neg c6] at H
        exact absurd H (by simp)
      rw [if_pos c6] at H; have c6b0 : decide (0 ≤ (ji5)) = true := decide_eq_true c6; clear c6
      by_cases c7 : (ji5) < (l0.length : Int)
      rotate_left
      · rw [if_neg c7] at H
        exact absurd H (by simp)
      rw [if_pos c7] at H; have c7b0 : decide ((ji5) < (l0.length : Int)) = true := decide_eq_true c7; clear c7
      obtain ⟨ji8, hji8⟩ : ∃ j_ : Int, (wrap64 (8 * x10_1)) = j_ := ⟨_, rfl⟩
      replace H : (if 0 ≤ (ji8) then (image_number.l0 k1 l0 a1 (Go.bits .or .u32 x7_1 (shl .u32 ((rd l0 (ji5)) % 4294967296) (ji8))) a2 (wrap64 (x10_1 + 1))) else (none)) = some r := by first | (rw [hji8] at H; exact H) | (simp only [hji8] at H ⊢; exact H)
      have hji8w : (IntKind.i64.wrap (8 * x10_1)) = ji8 := (i64_w _).trans hji8
      by_cases c9 : 0 ≤ (ji8)
      rotate_left
      · rw [if_neg c9] at H
        exact absurd H (by simp)
      rw [if_pos c9] at H; have c9b0 := eq_true c9; have c9b1 : decide (0 ≤ (ji8)) = true := decide_eq_true c9; clear c9
      obtain ⟨ji10, hji10⟩ : ∃ j_ : Int, (shl .u32 ((rd l0 (ji5)) % 4294967296) (ji8)) = j_ := ⟨_, rfl⟩
      replace H : (image_number.l0 k1 l0 a1 (Go.bits .or .u32 x7_1 (ji10)) a2 (wrap64 (x10_1 + 1))) = some r := by first | (rw [hji10] at H; exact H) | (simp only [hji10] at H ⊢; exact H)
      have hji10_ : (IntKind.u32.wrap (((rd l0 (ji5)) % 4294967296) * 2 ^ min (ji8).toNat 32)) = ji10 := hji10; have hji10z : (ji8) ≤ 32 → (IntKind.u32.wrap (((rd l0 (ji5)) % 4294967296) * 2 ^ (ji8).toNat)) = ji10 := zii hji10
      have H' := Aside0.mk H
      clear H; have p129 : 0 ≤ ((ji5) : Int) := of_decide_eq_true (by assumption); have q129 : (ji5) < (l0.length : Int) := of_decide_eq_true (by assumption); obtain ⟨ad129, e129, hx129_0⟩ := Kd.zf3 HR0.out (ji5) p129 q129; cases e129
      replace p129 := eq_true p129
      replace q129 := eq_true q129
      go_wp2
      go_roundg k1
      case measure => have := HK1.out; omega
      case rel => exact ⟨(Go.bits .or .u32 x7_1 (ji10)), (wrap64 (x10_1 + 1)), (by first | rfl | (simp; done) | (simp only [← hji10] <;> (first | rfl | simp)) | (simp [*]; done)), (by first | rfl | (simp; done) | (simp [*]; done)), H', ⟨by have := HK1.out; omega⟩, by repeat (first | exact Drawn0.refl _ | apply Drawn0.step)⟩
/-! ### image_ident: function 23 -/
def image_ident.f  : Option (List Int) := (some (([127, 69, 76, 70, 1, 1, 1] : List Int) : List Int)).bind fun y130 => (if y130.length + 9 < 140737488355328 then (some (y130 ++ List.replicate 9 0)) else (none))
set_option maxHeartbeats 8000000 in
set_option maxRecDepth 100000 in
theorem image_ident.calls  (r : List Int) (w : World) (h : image_ident.f  = some r) :
    Calls Try.prog 23 #[] w fun e w' => ∃ v0_ : Value, e = .returned (v0_) ∧ Kd.R (Kd.int .u8) 5 w' w.heap.size (fun _ => True) v0_ r ∧ Below w.heap.size w w' := by
  have HB := Aside0.mk (Below.refl w.heap.size w); have H : ((some (([127, 69, 76, 70, 1, 1, 1] : List Int) : List Int)).bind fun y130 => (if y130.length + 9 < 140737488355328 then (some (y130 ++ List.replicate 9 0)) else (none))) = some r := h; clear h
  obtain ⟨y130, hy130⟩ : ∃ y_ : List Int, y_ = (([127, 69, 76, 70, 1, 1, 1] : List Int)) := ⟨_, rfl⟩
  replace H : (if y130.length + 9 < 140737488355328 then (some (y130 ++ List.replicate 9 0)) else (none)) = some r := by first | (rw [hy130]; with_reducible exact H) | (have H2_ := (Option.bind_some _ _).symm.trans H; rw [hy130]; with_reducible exact H2_) | (have H2_ := (Option.bind_some _ _).symm.trans H; with_reducible exact H2_) | with_reducible exact H | (rw [hy130]; exact H) | exact H
  have Ny130 := Aside0.mk hy130; clear hy130
  by_cases c1 : y130.length + 9 < 140737488355328
  rotate_left
  · rw [if_neg c1] at H
    exact absurd H (by simp)
  rw [if_pos c1] at H; have LMc1 := Aside0.mk c1; clear c1
  obtain ⟨y133, hy133⟩ : ∃ y_ : List Int, y_ = (y130 ++ List.replicate 9 0) := ⟨_, rfl⟩
  replace H : (some y133) = some r := by first | (rw [hy133]; with_reducible exact H) | (have H2_ := (Option.bind_some _ _).symm.trans H; rw [hy133]; with_reducible exact H2_) | (have H2_ := (Option.bind_some _ _).symm.trans H; with_reducible exact H2_) | with_reducible exact H | (rw [hy133]; exact H) | exact H
  have Ny133 := Aside0.mk hy133; clear hy133; obtain rfl := Option.some.inj H
  go_enter Try.func23, Try.ntmps23
  go_wp2_with (first | ((with_reducible refine zax (N := 1) rfl ?_); refine Kd.R_lit (Kd.int .u8) _ 5 ?hg (N := 1) ?hd (xs := ([127, 69, 76, 70, 1, 1, 1] : List Int)) (inner := [.int .u8 127, .int .u8 69, .int .u8 76, .int .u8 70, .int .u8 1, .int .u8 1, .int .u8 1]) (ok := fun _ => True) (okp := fun _ => True) ?hr ?hp (fun _ hk => hk) trivial (Below.refl _ _) (Nat.le_refl _) (by simp) ?_; (case hd => rfl); (case hg => rfl); (case hr => first | (go_simp; done) | (go_simp; rfl)); (case hp => exact (Reps.one (show Kd.M (Kd.int .u8) _ _ _ 127 [.int .u8 127] from rfl) (Reps.one (show Kd.M (Kd.int .u8) _ _ _ 69 [.int .u8 69] from rfl) (Reps.one (show Kd.M (Kd.int .u8) _ _ _ 76 [.int .u8 76] from rfl) (Reps.one (show Kd.M (Kd.int .u8) _ _ _ 70 [.int .u8 70] from rfl) (Reps.one (show Kd.M (Kd.int .u8) _ _ _ 1 [.int .u8 1] from rfl) (Reps.one (show Kd.M (Kd.int .u8) _ _ _ 1 [.int .u8 1] from rfl) (Reps.one (show Kd.M (Kd.int .u8) _ _ _ 1 [.int .u8 1] from rfl) (Reps.none _ _))))))))); intro v131 w2 ho3 hb hg_ hnew_; clear hg_ hnew_; (first | rw [← Ny130.out] at ho3 | (simp only [Int.reduceToNat] at ho3; rw [← Ny130.out] at ho3)); have n0_ := Aside0.mk (Kd.zbi ho3 (zak (by with_reducible repeat (first | exact HB.out | apply zab | apply zaa | apply zac)))); have n1_ := Aside0.mk (zam (by with_reducible repeat (first | exact HB.out | apply zab | apply zaa | apply zac)) hb); clear HB; have HO132 := n0_; have HB := n1_; clear n0_ n1_; clear hb ho3) | (at_builtin; refine Kd.zga (Kd.int .u8) (w0 := w) w.heap.size rfl (.tmp 1) (.const (.int .i64 9)) 28 3 5 (.int .u8 0) 1 rfl Try.underlying28 Try.underlying3 info5 rfl (by decide) (by omega) v131 y130 0 (9 : Int) (fun _ => True) rfl rfl rfl ?aF ?aO (by omega) ?aB ?aS ?aL ?_; (case aB => exact (by with_reducible repeat (first | exact HB.out | apply zab | apply zaa | apply zac))); (case aF => exact (fun _ _ => trivial)); (case aO => exact (by (with_reducible repeat (first | apply Kd.zas | apply Kd.zar | apply Kd.zat)); exact HO132.out)); (case aS => exact (zak (by with_reducible repeat (first | exact HB.out | apply zab | apply zaa | apply zac)))); (case aL => have := LMc1.out; omega); intro v134 w4 ho hb hg hat; (first | rw [← Ny133.out] at ho | (simp only [Int.reduceToNat] at ho; rw [← Ny133.out] at ho) | rw [show (9 : Int).toNat = 9 from rfl, ← Ny133.out] at ho); have n0_ := Aside0.mk (hb); have n1_ := Aside0.mk (ho); clear HB; clear HO132; have HB := n0_; have HO135 := n1_; clear n0_ n1_; clear ho hb hg hat))
  go_ret
  exact ⟨_, by first | rfl | (simp [*]; done) | (simp [*, zaz, zay] <;> rfl), by (with_reducible repeat (first | apply Kd.zas | apply Kd.zar | apply Kd.zat)); exact HO135.out, by repeat (first | (with_reducible first | exact HB.out | apply zab | apply zaa | apply zac) | exact HB.out)⟩
end Go.Proofs.Ytcjaepmecihmlaa.Img
