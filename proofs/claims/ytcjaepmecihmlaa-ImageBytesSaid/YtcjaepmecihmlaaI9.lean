/- What the reference's GoodImage answers (its lines began as print.sh's). -/
import Derived.Test.YtcjaepmecihmlaaI0
import Derived.Test.YtcjaepmecihmlaaI8
namespace Go.Proofs.Ytcjaepmecihmlaa.Img
open Go.RowKit Go.Proofs.YtcjaepmecihmlaaW.PrintWords Go.Proofs.YtcjaepmecihmlaaW.PrintLast Go.Proofs.YtcjaepmecihmlaaW.PrintMore
attribute [local go_sem] zcp zcn zcw zcv zcc zcb zco zcm   -- for this text's walks alone
set_option linter.unusedVariables false
set_option linter.unusedSimpArgs false
/-! ### tinctureref7_GoodImage: function 18 -/
mutual
def tinctureref7_GoodImage.l0 : Nat → Int → Int → Int → Int → List (S65) → Option (Int)
  | 0, _, _, _, _, _ => none
  | k + 1, x3, x4, x5, x277000, x277001 => if x5 < (x277001.length : Int) then (if 0 ≤ x5 then (if (Int.tmod ((zal x277001 x5).f0) 256) = 0 then (if ((zal x277001 x5).f1) = 0 then (some 1) else (if (wrap64 ((zal x277001 x5).f1)) < (((zal x277001 x5).f3).length : Int) then (some 1) else (if (wrap64 ((wrap64 ((zal x277001 x5).f0)) + (wrap64 ((zal x277001 x5).f1)))) > 4294967296 then (some 1) else (if ((zal x277001 x5).f2) < 0 then (some 1) else (if ((zal x277001 x5).f2) > 7 then (some 1) else (tinctureref7_GoodImage.l0 k (wrap64 (x3 + (((zal x277001 x5).f3).length : Int))) (wrap64 (x4 + (wrap64 ((zal x277001 x5).f1)))) (wrap64 (x5 + 1)) x277000 x277001)))))) else (some 1)) else (none)) else (if x3 > 65536 then (tinctureref7_GoodImage.j1 k true x277000 x277001) else (tinctureref7_GoodImage.j1 k (decide (x4 > 65536)) x277000 x277001))
def tinctureref7_GoodImage.j1 : Nat → Bool → Int → List (S65) → Option (Int)
  | 0, _, _, _ => none
  | k + 1, x85, x277000, x277001 => if x85 = true then (some 2) else (tinctureref7_GoodImage.l1 k false 0 x277000 x277001)
def tinctureref7_GoodImage.l1 : Nat → Bool → Int → Int → List (S65) → Option (Int)
  | 0, _, _, _, _ => none
  | k + 1, x7, x8, x277000, x277001 => if x8 < (x277001.length : Int) then (if 0 ≤ x8 then (tinctureref7_GoodImage.l2 k x7 x8 0 x277000 x277001 ((zal x277001 x8).f0) ((zal x277001 x8).f1) ((zal x277001 x8).f2) ((zal x277001 x8).f3)) else (none)) else (if (Int.tmod x277000 4) = 0 then (if x7 = true then (some 0) else (some 1)) else (some 1))
def tinctureref7_GoodImage.l2 : Nat → Bool → Int → Int → Int → List (S65) → Int → Int → Int → List Int → Option (Int)
  | 0, _, _, _, _, _, _, _, _, _ => none
  | k + 1, x7, x8, x10, x277000, x277001, x281000, x281001, x281002, x281003 => if x10 < x8 then (if 0 ≤ x10 then (if x10 < (x277001.length : Int) then ((tinctureref7_up.f (wrap64 ((zal x277001 x10).f1))).bind fun t283 => (if (wrap64 (x281000)) < (wrap64 ((wrap64 ((zal x277001 x10).f0)) + t283)) then ((tinctureref7_up.f (wrap64 (x281001))).bind fun t284 => (if (wrap64 ((zal x277001 x10).f0)) < (wrap64 ((wrap64 (x281000)) + t284)) then (some 1) else (tinctureref7_GoodImage.l2 k x7 x8 (wrap64 (x10 + 1)) x277000 x277001 x281000 x281001 x281002 x281003))) else (tinctureref7_GoodImage.l2 k x7 x8 (wrap64 (x10 + 1)) x277000 x277001 x281000 x281001 x281002 x281003))) else (none)) else (none)) else (if x7 = true then (tinctureref7_GoodImage.l1 k true (wrap64 (x8 + 1)) x277000 x277001) else (if (Go.bits .and .i64 x281002 4) = 0 then (tinctureref7_GoodImage.l1 k false (wrap64 (x8 + 1)) x277000 x277001) else (if x277000 ≥ x281000 then (tinctureref7_GoodImage.l1 k (decide ((wrap64 ((wrap64 (x277000)) - (wrap64 (x281000)))) < (wrap64 (x281001)))) (wrap64 (x8 + 1)) x277000 x277001) else (tinctureref7_GoodImage.l1 k false (wrap64 (x8 + 1)) x277000 x277001))))
end
def tinctureref7_GoodImage.f (k : Nat) (a0_0 : Int) (l0_1 : List (S65)) : Option (Int) := if (l0_1.length : Int) > 8 then (some 2) else (if (l0_1.length : Int) = 0 then (some 1) else (tinctureref7_GoodImage.l0 k 0 0 0 a0_0 l0_1))
theorem tinctureref7_GoodImage.zbw : ∀ k, (∀ y0 y1 y2 y3 y4, LeO (tinctureref7_GoodImage.l0 k y0 y1 y2 y3 y4) (tinctureref7_GoodImage.l0 (k + 1) y0 y1 y2 y3 y4)) ∧ (∀ y0 y1 y2, LeO (tinctureref7_GoodImage.j1 k y0 y1 y2) (tinctureref7_GoodImage.j1 (k + 1) y0 y1 y2)) ∧ (∀ y0 y1 y2 y3, LeO (tinctureref7_GoodImage.l1 k y0 y1 y2 y3) (tinctureref7_GoodImage.l1 (k + 1) y0 y1 y2 y3)) ∧ (∀ y0 y1 y2 y3 y4 y5 y6 y7 y8, LeO (tinctureref7_GoodImage.l2 k y0 y1 y2 y3 y4 y5 y6 y7 y8) (tinctureref7_GoodImage.l2 (k + 1) y0 y1 y2 y3 y4 y5 y6 y7 y8))
  | 0 => ⟨fun _ _ _ _ _ r h => by simp [tinctureref7_GoodImage.l0] at h, fun _ _ _ r h => by simp [tinctureref7_GoodImage.j1] at h, fun _ _ _ _ r h => by simp [tinctureref7_GoodImage.l1] at h, fun _ _ _ _ _ _ _ _ _ r h => by simp [tinctureref7_GoodImage.l2] at h⟩
  | k + 1 => by
    obtain ⟨ih0, ih1, ih2, ih3⟩ := tinctureref7_GoodImage.zbw k
    refine ⟨?_, ?_, ?_, ?_⟩
    · intro y0 y1 y2 y3 y4
      unfold tinctureref7_GoodImage.l0
      repeat' first
      | (with_reducible exact ih0 _ _ _ _ _)
      | (with_reducible exact ih1 _ _ _)
      | (with_reducible exact ih2 _ _ _ _)
      | (with_reducible exact ih3 _ _ _ _ _ _ _ _ _)
      | (with_reducible exact LeO.refl _)
      | (with_reducible exact LeO.none _)
      | (with_reducible refine LeO.ite ?_ ?_)
      | (with_reducible refine LeO.bind ?_ (fun _ => ?_))
      | exact ih0 _ _ _ _ _
      | exact ih1 _ _ _
      | exact ih2 _ _ _ _
      | exact ih3 _ _ _ _ _ _ _ _ _
      | exact LeO.none _
      | refine LeO.ite ?_ ?_
      | refine LeO.bind ?_ (fun _ => ?_)
    · intro y0 y1 y2
      unfold tinctureref7_GoodImage.j1
      repeat' first
      | (with_reducible exact ih0 _ _ _ _ _)
      | (with_reducible exact ih1 _ _ _)
      | (with_reducible exact ih2 _ _ _ _)
      | (with_reducible exact ih3 _ _ _ _ _ _ _ _ _)
      | (with_reducible exact LeO.refl _)
      | (with_reducible exact LeO.none _)
      | (with_reducible refine LeO.ite ?_ ?_)
      | (with_reducible refine LeO.bind ?_ (fun _ => ?_))
      | exact ih0 _ _ _ _ _
      | exact ih1 _ _ _
      | exact ih2 _ _ _ _
      | exact ih3 _ _ _ _ _ _ _ _ _
      | exact LeO.none _
      | refine LeO.ite ?_ ?_
      | refine LeO.bind ?_ (fun _ => ?_)
    · intro y0 y1 y2 y3
      unfold tinctureref7_GoodImage.l1
      repeat' first
      | (with_reducible exact ih0 _ _ _ _ _)
      | (with_reducible exact ih1 _ _ _)
      | (with_reducible exact ih2 _ _ _ _)
      | (with_reducible exact ih3 _ _ _ _ _ _ _ _ _)
      | (with_reducible exact LeO.refl _)
      | (with_reducible exact LeO.none _)
      | (with_reducible refine LeO.ite ?_ ?_)
      | (with_reducible refine LeO.bind ?_ (fun _ => ?_))
      | exact ih0 _ _ _ _ _
      | exact ih1 _ _ _
      | exact ih2 _ _ _ _
      | exact ih3 _ _ _ _ _ _ _ _ _
      | exact LeO.none _
      | refine LeO.ite ?_ ?_
      | refine LeO.bind ?_ (fun _ => ?_)
    · intro y0 y1 y2 y3 y4 y5 y6 y7 y8
      unfold tinctureref7_GoodImage.l2
      repeat' first
      | (with_reducible exact ih0 _ _ _ _ _)
      | (with_reducible exact ih1 _ _ _)
      | (with_reducible exact ih2 _ _ _ _)
      | (with_reducible exact ih3 _ _ _ _ _ _ _ _ _)
      | (with_reducible exact LeO.refl _)
      | (with_reducible exact LeO.none _)
      | (with_reducible refine LeO.ite ?_ ?_)
      | (with_reducible refine LeO.bind ?_ (fun _ => ?_))
      | exact ih0 _ _ _ _ _
      | exact ih1 _ _ _
      | exact ih2 _ _ _ _
      | exact ih3 _ _ _ _ _ _ _ _ _
      | exact LeO.none _
      | refine LeO.ite ?_ ?_
      | refine LeO.bind ?_ (fun _ => ?_)
theorem tinctureref7_GoodImage.mono : ∀ a0 a1 k, LeO (tinctureref7_GoodImage.f k a0 a1) (tinctureref7_GoodImage.f (k + 1) a0 a1) := by
  intro a0 a1 k; obtain ⟨ih0, ih1, ih2, ih3⟩ := tinctureref7_GoodImage.zbw k; unfold tinctureref7_GoodImage.f
  repeat' first
      | (with_reducible exact ih0 _ _ _ _ _)
      | (with_reducible exact ih1 _ _ _)
      | (with_reducible exact ih2 _ _ _ _)
      | (with_reducible exact ih3 _ _ _ _ _ _ _ _ _)
      | (with_reducible exact LeO.refl _)
      | (with_reducible exact LeO.none _)
      | (with_reducible refine LeO.ite ?_ ?_)
      | (with_reducible refine LeO.bind ?_ (fun _ => ?_))
      | exact ih0 _ _ _ _ _
      | exact ih1 _ _ _
      | exact ih2 _ _ _ _
      | exact ih3 _ _ _ _ _ _ _ _ _
      | exact LeO.none _
      | refine LeO.ite ?_ ?_
      | refine LeO.bind ?_ (fun _ => ?_)
set_option maxHeartbeats 8000000 in
set_option maxRecDepth 100000 in
theorem tinctureref7_GoodImage.calls (k : Nat) (a0_0 : Int) (A0_1 : Option Addr) (c0_1 : Nat) (l0_1 : List (S65)) (r : Int) (w : World) (hr0_1 : Kd.C k65 w A0_1 l0_1.length l0_1) (hc0_1 : l0_1.length ≤ c0_1) (h : tinctureref7_GoodImage.f k a0_0 l0_1 = some r) :
    Calls Try.prog 18 #[.agg #[.int .u32 a0_0, .slice A0_1 l0_1.length c0_1]] w fun e w' => e = .returned (.int .i64 r) ∧ Below w.heap.size w w' := by
  have hu40 := Try.underlying40; have hu65 := Try.underlying65; have HR0_1 := Aside0.mk hr0_1; have HC0_1 := Aside0.mk hc0_1; clear hr0_1 hc0_1; have HB := Aside0.mk (Below.refl w.heap.size w); have H : (if (l0_1.length : Int) > 8 then (some 2) else (if (l0_1.length : Int) = 0 then (some 1) else (tinctureref7_GoodImage.l0 k 0 0 0 a0_0 l0_1))) = some r := h; clear h
  by_cases c2 : (l0_1.length : Int) > 8
  · rw [if_pos c2] at H
    have c2b0 : decide (8 < (l0_1.length : Int)) = true := decide_eq_true c2; have c2b1 : decide (8 < l0_1.length) = true := decide_eq_true (by omega); clear c2; obtain rfl := Option.some.inj H
    go_enter Try.func18, Try.ntmps18
    go_wp2_with (first | ((with_reducible refine zax (N := 1) rfl ?_); (try (refine za6 (by rfl) ?_; dsimp only)); refine zau ?hg (N := 1) ?hd (cs := #[.int .u32 a0_0, .slice A0_1 l0_1.length c0_1]) (t := 40) ?hr ?_; (case hd => rfl); (case hg => rfl); (case hr => first | (go_simp; done) | (go_simp; rfl)); intro gb276 hg w3 hbox hb; have n0_ := Aside0.mk (zam (by with_reducible repeat (first | exact HB.out | apply zab | apply zaa | apply zac)) hb); have n1_ := Aside0.mk (hbox); have n2_ := Aside0.mk ((by rw [hg]; exact (zak (by with_reducible repeat (first | exact HB.out | apply zab | apply zaa | apply zac))) : w.heap.size ≤ gb276)); have n3_ := Aside0.mk ((by rw [hg]; exact (zak (by with_reducible repeat (first | exact HB.out | apply zab | apply zaa | apply zac))) : w.heap.size ≤ gb276)); clear HB; have HB := n0_; have BK276 := n1_; have GW276 := n2_; have GE276 := n3_; clear n0_ n1_ n2_ n3_; clear hb hbox hg; have hcz4_0 : w3.cell? ⟨gb276, 0, none⟩ = some (.int .u32 a0_0) := (zai BK276.out 0).trans rfl; have hcz4_1 : w3.cell? ⟨gb276, 1, none⟩ = some (.slice A0_1 l0_1.length c0_1) := (zai BK276.out 1).trans rfl; have hfz4_0 := zah BK276.out 0; have hfz4_1 := zah BK276.out 1))
    repeat (go_quiet (first | ((with_reducible refine zax (N := 1) rfl ?_); (try (refine za6 (by rfl) ?_; dsimp only)); refine zau ?hg (N := 1) ?hd (cs := #[.int .u32 a0_0, .slice A0_1 l0_1.length c0_1]) (t := 40) ?hr ?_; (case hd => rfl); (case hg => rfl); (case hr => first | (go_simp; done) | (go_simp; rfl)); intro gb276 hg w3 hbox hb; have n0_ := Aside0.mk (zam (by with_reducible repeat (first | exact HB.out | apply zab | apply zaa | apply zac)) hb); have n1_ := Aside0.mk (hbox); have n2_ := Aside0.mk ((by rw [hg]; exact (zak (by with_reducible repeat (first | exact HB.out | apply zab | apply zaa | apply zac))) : w.heap.size ≤ gb276)); have n3_ := Aside0.mk ((by rw [hg]; exact (zak (by with_reducible repeat (first | exact HB.out | apply zab | apply zaa | apply zac))) : w.heap.size ≤ gb276)); clear HB; have HB := n0_; have BK276 := n1_; have GW276 := n2_; have GE276 := n3_; clear n0_ n1_ n2_ n3_; clear hb hbox hg; have hcz4_0 : w3.cell? ⟨gb276, 0, none⟩ = some (.int .u32 a0_0) := (zai BK276.out 0).trans rfl; have hcz4_1 : w3.cell? ⟨gb276, 1, none⟩ = some (.slice A0_1 l0_1.length c0_1) := (zai BK276.out 1).trans rfl; have hfz4_0 := zah BK276.out 0; have hfz4_1 := zah BK276.out 1)); try go_wp2_with (first | ((with_reducible refine zax (N := 1) rfl ?_); (try (refine za6 (by rfl) ?_; dsimp only)); refine zau ?hg (N := 1) ?hd (cs := #[.int .u32 a0_0, .slice A0_1 l0_1.length c0_1]) (t := 40) ?hr ?_; (case hd => rfl); (case hg => rfl); (case hr => first | (go_simp; done) | (go_simp; rfl)); intro gb276 hg w3 hbox hb; have n0_ := Aside0.mk (zam (by with_reducible repeat (first | exact HB.out | apply zab | apply zaa | apply zac)) hb); have n1_ := Aside0.mk (hbox); have n2_ := Aside0.mk ((by rw [hg]; exact (zak (by with_reducible repeat (first | exact HB.out | apply zab | apply zaa | apply zac))) : w.heap.size ≤ gb276)); have n3_ := Aside0.mk ((by rw [hg]; exact (zak (by with_reducible repeat (first | exact HB.out | apply zab | apply zaa | apply zac))) : w.heap.size ≤ gb276)); clear HB; have HB := n0_; have BK276 := n1_; have GW276 := n2_; have GE276 := n3_; clear n0_ n1_ n2_ n3_; clear hb hbox hg; have hcz4_0 : w3.cell? ⟨gb276, 0, none⟩ = some (.int .u32 a0_0) := (zai BK276.out 0).trans rfl; have hcz4_1 : w3.cell? ⟨gb276, 1, none⟩ = some (.slice A0_1 l0_1.length c0_1) := (zai BK276.out 1).trans rfl; have hfz4_0 := zah BK276.out 0; have hfz4_1 := zah BK276.out 1)))
    go_ret
    exact ⟨by first | rfl | (simp [*]; done) | (simp [*, zaz, zay] <;> rfl), by repeat (first | (with_reducible first | exact HB.out | apply zab | apply zaa | apply zac | refine zaf ?_ GE276.out) | exact HB.out)⟩
  rw [if_neg c2] at H; have c2b0 : decide (8 < (l0_1.length : Int)) = false := decide_eq_false c2; have c2b1 : decide (8 < l0_1.length) = false := decide_eq_false (by omega); clear c2
  by_cases c5 : (l0_1.length : Int) = 0
  · rw [if_pos c5] at H
    have c5b0 : ((l0_1.length : Int) == 0) = true := beq_iff_eq.mpr c5; have c5b1 : ((l0_1.length : Int) != 0) = false := bne_eq_false_iff_eq.mpr c5; clear c5; obtain rfl := Option.some.inj H
    go_enter Try.func18, Try.ntmps18
    go_wp2_with (first | ((with_reducible refine zax (N := 1) rfl ?_); (try (refine za6 (by rfl) ?_; dsimp only)); refine zau ?hg (N := 1) ?hd (cs := #[.int .u32 a0_0, .slice A0_1 l0_1.length c0_1]) (t := 40) ?hr ?_; (case hd => rfl); (case hg => rfl); (case hr => first | (go_simp; done) | (go_simp; rfl)); intro gb276 hg w6 hbox hb; have n0_ := Aside0.mk (zam (by with_reducible repeat (first | exact HB.out | apply zab | apply zaa | apply zac)) hb); have n1_ := Aside0.mk (hbox); have n2_ := Aside0.mk ((by rw [hg]; exact (zak (by with_reducible repeat (first | exact HB.out | apply zab | apply zaa | apply zac))) : w.heap.size ≤ gb276)); have n3_ := Aside0.mk ((by rw [hg]; exact (zak (by with_reducible repeat (first | exact HB.out | apply zab | apply zaa | apply zac))) : w.heap.size ≤ gb276)); clear HB; have HB := n0_; have BK276 := n1_; have GW276 := n2_; have GE276 := n3_; clear n0_ n1_ n2_ n3_; clear hb hbox hg; have hcz7_0 : w6.cell? ⟨gb276, 0, none⟩ = some (.int .u32 a0_0) := (zai BK276.out 0).trans rfl; have hcz7_1 : w6.cell? ⟨gb276, 1, none⟩ = some (.slice A0_1 l0_1.length c0_1) := (zai BK276.out 1).trans rfl; have hfz7_0 := zah BK276.out 0; have hfz7_1 := zah BK276.out 1))
    repeat (go_quiet (first | ((with_reducible refine zax (N := 1) rfl ?_); (try (refine za6 (by rfl) ?_; dsimp only)); refine zau ?hg (N := 1) ?hd (cs := #[.int .u32 a0_0, .slice A0_1 l0_1.length c0_1]) (t := 40) ?hr ?_; (case hd => rfl); (case hg => rfl); (case hr => first | (go_simp; done) | (go_simp; rfl)); intro gb276 hg w6 hbox hb; have n0_ := Aside0.mk (zam (by with_reducible repeat (first | exact HB.out | apply zab | apply zaa | apply zac)) hb); have n1_ := Aside0.mk (hbox); have n2_ := Aside0.mk ((by rw [hg]; exact (zak (by with_reducible repeat (first | exact HB.out | apply zab | apply zaa | apply zac))) : w.heap.size ≤ gb276)); have n3_ := Aside0.mk ((by rw [hg]; exact (zak (by with_reducible repeat (first | exact HB.out | apply zab | apply zaa | apply zac))) : w.heap.size ≤ gb276)); clear HB; have HB := n0_; have BK276 := n1_; have GW276 := n2_; have GE276 := n3_; clear n0_ n1_ n2_ n3_; clear hb hbox hg; have hcz7_0 : w6.cell? ⟨gb276, 0, none⟩ = some (.int .u32 a0_0) := (zai BK276.out 0).trans rfl; have hcz7_1 : w6.cell? ⟨gb276, 1, none⟩ = some (.slice A0_1 l0_1.length c0_1) := (zai BK276.out 1).trans rfl; have hfz7_0 := zah BK276.out 0; have hfz7_1 := zah BK276.out 1)); try go_wp2_with (first | ((with_reducible refine zax (N := 1) rfl ?_); (try (refine za6 (by rfl) ?_; dsimp only)); refine zau ?hg (N := 1) ?hd (cs := #[.int .u32 a0_0, .slice A0_1 l0_1.length c0_1]) (t := 40) ?hr ?_; (case hd => rfl); (case hg => rfl); (case hr => first | (go_simp; done) | (go_simp; rfl)); intro gb276 hg w6 hbox hb; have n0_ := Aside0.mk (zam (by with_reducible repeat (first | exact HB.out | apply zab | apply zaa | apply zac)) hb); have n1_ := Aside0.mk (hbox); have n2_ := Aside0.mk ((by rw [hg]; exact (zak (by with_reducible repeat (first | exact HB.out | apply zab | apply zaa | apply zac))) : w.heap.size ≤ gb276)); have n3_ := Aside0.mk ((by rw [hg]; exact (zak (by with_reducible repeat (first | exact HB.out | apply zab | apply zaa | apply zac))) : w.heap.size ≤ gb276)); clear HB; have HB := n0_; have BK276 := n1_; have GW276 := n2_; have GE276 := n3_; clear n0_ n1_ n2_ n3_; clear hb hbox hg; have hcz7_0 : w6.cell? ⟨gb276, 0, none⟩ = some (.int .u32 a0_0) := (zai BK276.out 0).trans rfl; have hcz7_1 : w6.cell? ⟨gb276, 1, none⟩ = some (.slice A0_1 l0_1.length c0_1) := (zai BK276.out 1).trans rfl; have hfz7_0 := zah BK276.out 0; have hfz7_1 := zah BK276.out 1)))
    go_ret
    exact ⟨by first | rfl | (simp [*]; done) | (simp [*, zaz, zay] <;> rfl), by repeat (first | (with_reducible first | exact HB.out | apply zab | apply zaa | apply zac | refine zaf ?_ GE276.out) | exact HB.out)⟩
  rw [if_neg c5] at H; have c5b0 : ((l0_1.length : Int) == 0) = false := beq_eq_false_iff_ne.mpr c5; have c5b1 : ((l0_1.length : Int) != 0) = true := bne_iff_ne.mpr c5
  have c5b2 : ¬ (l0_1 = []) := fun h_ => c5 (by rw [h_]; rfl)
  have H' := Aside0.mk H
  clear H
  go_enter Try.func18, Try.ntmps18
  go_wp2_with (first | ((with_reducible refine zax (N := 1) rfl ?_); (try (refine za6 (by rfl) ?_; dsimp only)); refine zau ?hg (N := 1) ?hd (cs := #[.int .u32 a0_0, .slice A0_1 l0_1.length c0_1]) (t := 40) ?hr ?_; (case hd => rfl); (case hg => rfl); (case hr => first | (go_simp; done) | (go_simp; rfl)); intro gb276 hg w8 hbox hb; have n0_ := Aside0.mk (zam (by with_reducible repeat (first | exact HB.out | apply zab | apply zaa | apply zac)) hb); have n1_ := Aside0.mk (hbox); have n2_ := Aside0.mk ((by rw [hg]; exact (zak (by with_reducible repeat (first | exact HB.out | apply zab | apply zaa | apply zac))) : w.heap.size ≤ gb276)); have n3_ := Aside0.mk ((by rw [hg]; exact (zak (by with_reducible repeat (first | exact HB.out | apply zab | apply zaa | apply zac))) : w.heap.size ≤ gb276)); clear HB; have HB := n0_; have BK276 := n1_; have GW276 := n2_; have GE276 := n3_; clear n0_ n1_ n2_ n3_; clear hb hbox hg; have hcz9_0 : w8.cell? ⟨gb276, 0, none⟩ = some (.int .u32 a0_0) := (zai BK276.out 0).trans rfl; have hcz9_1 : w8.cell? ⟨gb276, 1, none⟩ = some (.slice A0_1 l0_1.length c0_1) := (zai BK276.out 1).trans rfl; have hfz9_0 := zah BK276.out 0; have hfz9_1 := zah BK276.out 1))
  repeat (go_quiet (first | ((with_reducible refine zax (N := 1) rfl ?_); (try (refine za6 (by rfl) ?_; dsimp only)); refine zau ?hg (N := 1) ?hd (cs := #[.int .u32 a0_0, .slice A0_1 l0_1.length c0_1]) (t := 40) ?hr ?_; (case hd => rfl); (case hg => rfl); (case hr => first | (go_simp; done) | (go_simp; rfl)); intro gb276 hg w8 hbox hb; have n0_ := Aside0.mk (zam (by with_reducible repeat (first | exact HB.out | apply zab | apply zaa | apply zac)) hb); have n1_ := Aside0.mk (hbox); have n2_ := Aside0.mk ((by rw [hg]; exact (zak (by with_reducible repeat (first | exact HB.out | apply zab | apply zaa | apply zac))) : w.heap.size ≤ gb276)); have n3_ := Aside0.mk ((by rw [hg]; exact (zak (by with_reducible repeat (first | exact HB.out | apply zab | apply zaa | apply zac))) : w.heap.size ≤ gb276)); clear HB; have HB := n0_; have BK276 := n1_; have GW276 := n2_; have GE276 := n3_; clear n0_ n1_ n2_ n3_; clear hb hbox hg; have hcz9_0 : w8.cell? ⟨gb276, 0, none⟩ = some (.int .u32 a0_0) := (zai BK276.out 0).trans rfl; have hcz9_1 : w8.cell? ⟨gb276, 1, none⟩ = some (.slice A0_1 l0_1.length c0_1) := (zai BK276.out 1).trans rfl; have hfz9_0 := zah BK276.out 0; have hfz9_1 := zah BK276.out 1)); try go_wp2_with (first | ((with_reducible refine zax (N := 1) rfl ?_); (try (refine za6 (by rfl) ?_; dsimp only)); refine zau ?hg (N := 1) ?hd (cs := #[.int .u32 a0_0, .slice A0_1 l0_1.length c0_1]) (t := 40) ?hr ?_; (case hd => rfl); (case hg => rfl); (case hr => first | (go_simp; done) | (go_simp; rfl)); intro gb276 hg w8 hbox hb; have n0_ := Aside0.mk (zam (by with_reducible repeat (first | exact HB.out | apply zab | apply zaa | apply zac)) hb); have n1_ := Aside0.mk (hbox); have n2_ := Aside0.mk ((by rw [hg]; exact (zak (by with_reducible repeat (first | exact HB.out | apply zab | apply zaa | apply zac))) : w.heap.size ≤ gb276)); have n3_ := Aside0.mk ((by rw [hg]; exact (zak (by with_reducible repeat (first | exact HB.out | apply zab | apply zaa | apply zac))) : w.heap.size ≤ gb276)); clear HB; have HB := n0_; have BK276 := n1_; have GW276 := n2_; have GE276 := n3_; clear n0_ n1_ n2_ n3_; clear hb hbox hg; have hcz9_0 : w8.cell? ⟨gb276, 0, none⟩ = some (.int .u32 a0_0) := (zai BK276.out 0).trans rfl; have hcz9_1 : w8.cell? ⟨gb276, 1, none⟩ = some (.slice A0_1 l0_1.length c0_1) := (zai BK276.out 1).trans rfl; have hfz9_0 := zah BK276.out 0; have hfz9_1 := zah BK276.out 1)))
  go_loopg [3, 4, 5] k (fun kq v3 v4 v5 w' => ∃ (x3_1 : Int) (x4_1 : Int) (x5_1 : Int), v3 = .int .i64 x3_1 ∧ v4 = .int .i64 x4_1 ∧ v5 = .int .i64 x5_1 ∧ Aside0 (tinctureref7_GoodImage.l0 kq x3_1 x4_1 x5_1 a0_0 l0_1 = some r) ∧ Aside0 (kq ≤ k) ∧ Aside0 (w'.heap[gb276]? = some (.cells #[.int .u32 a0_0, (.slice A0_1 l0_1.length c0_1)] 40 (0, 0))) ∧ Aside0 (Below w.heap.size w w'))
  case atStart => exact ⟨(0), (0), (0), (by first | rfl | (simp; done) | (simp [*]; done)), (by first | rfl | (simp; done) | (simp [*]; done)), (by first | rfl | (simp; done) | (simp [*]; done)), H', ⟨Nat.le_refl _⟩, ⟨by (with_reducible repeat (first | refine zae ?_ _ | refine zaj ?_ | refine zad ?_ _)); exact BK276.out⟩, ⟨by repeat (first | (with_reducible first | exact HB.out | apply zab | apply zaa | apply zac | refine zaf ?_ GE276.out) | exact HB.out)⟩⟩
  case round =>
    clear H'
    try clear c1
    try clear c2
    try clear c2b0
    try clear c2b1
    try clear p2
    try clear c5
    try clear c5b0
    try clear c5b1
    try clear c5b2
    try clear hcz4_0
    try clear hcz4_1
    try clear hcz7_0
    try clear hcz7_1
    try clear hcz9_0
    try clear hcz9_1
    try clear hfz4_0
    try clear hfz4_1
    try clear hfz7_0
    try clear hfz7_1
    try clear hfz9_0
    try clear hfz9_1
    obtain ⟨x3_1, x4_1, x5_1, rfl, rfl, rfl, HA, HK1, BK276, HB⟩ := hrel
    cases gk with
    | zero => exact absurd HA.out (by simp [tinctureref7_GoodImage.l0])
    | succ k1 =>
      have H := HA.out; clear HA; simp only [tinctureref7_GoodImage.l0] at H
      by_cases c10 : x5_1 < (l0_1.length : Int)
      · rw [if_pos c10] at H
        have c10b0 : decide (x5_1 < (l0_1.length : Int)) = true := decide_eq_true c10; clear c10
        by_cases c11 : 0 ≤ x5_1
        rotate_left
        · rw [if_neg c11] at H
          exact absurd H (by simp)
        rw [if_pos c11] at H; have c11b0 : decide (0 ≤ x5_1) = true := decide_eq_true c11; clear c11
        by_cases c12 : (Int.tmod ((zal l0_1 x5_1).f0) 256) = 0
        rotate_left
        · rw [if_neg c12] at H
          have c12b0 : ((Int.tmod ((zal l0_1 x5_1).f0) 256) == 0) = false := beq_eq_false_iff_ne.mpr c12; have c12b1 : ((Int.tmod ((zal l0_1 x5_1).f0) 256) != 0) = true := bne_iff_ne.mpr c12; obtain rfl := Option.some.inj H; have hcz42_0 : wr.cell? ⟨gb276, 0, none⟩ = some (.int .u32 a0_0) := (zai BK276.out 0).trans rfl; have hcz42_1 : wr.cell? ⟨gb276, 1, none⟩ = some (.slice A0_1 l0_1.length c0_1) := (zai BK276.out 1).trans rfl; have hfz42_0 := zah BK276.out 0; have hfz42_1 := zah BK276.out 1; have p277 : 0 ≤ (x5_1 : Int) := of_decide_eq_true (by assumption); have q277 : x5_1 < (l0_1.length : Int) := of_decide_eq_true (by assumption); obtain ⟨ad277, A277_3, c277_3, e277, hx277_0, hx277_1, hx277_2, hx277_3, hl277_3, hi277_3⟩ := zc6 HR0_1.out x5_1 p277 q277; cases e277
          replace hx277_0 := (HB.out.cell (World.block_lt_of_cell? w _ hx277_0)).trans hx277_0
          replace hx277_1 := (HB.out.cell (World.block_lt_of_cell? w _ hx277_1)).trans hx277_1
          replace hx277_2 := (HB.out.cell (World.block_lt_of_cell? w _ hx277_2)).trans hx277_2
          replace hx277_3 := (HB.out.cell (World.block_lt_of_cell? w _ hx277_3)).trans hx277_3
          have HR277_3 := Aside0.mk hi277_3; have HC277_3 := Aside0.mk hl277_3; clear hi277_3 hl277_3
          replace p277 := eq_true p277
          replace q277 := eq_true q277
          go_wp2_with (first | ((with_reducible refine zax (N := 6) rfl ?_); (try (refine za6 (by rfl) ?_; dsimp only)); refine zau ?hg (N := 6) ?hd (cs := #[.int .u32 0, .int .u32 0, .int .i64 0, .slice none 0 0]) (t := 65) ?hr ?_; (case hd => rfl); (case hg => rfl); (case hr => first | (go_simp; done) | (go_simp; rfl)); intro gb278 hg w43 hbox hb; have n0_ := Aside0.mk (zaq (g := gb276) (o := .cells #[.int .u32 a0_0, .slice (some ad277) l0_1.length c0_1] 40 (0, 0)) (by (with_reducible repeat (first | refine zae ?_ _ | refine zaj ?_ | refine zad ?_ _)); exact BK276.out) hb); have n1_ := Aside0.mk (zam (by with_reducible repeat (first | exact HB.out | apply zab | apply zaa | apply zac | refine zaf ?_ GE276.out)) hb); have n2_ := Aside0.mk (hbox); have n3_ := Aside0.mk ((by rw [hg]; exact (zak (by with_reducible repeat (first | exact HB.out | apply zab | apply zaa | apply zac | refine zaf ?_ GE276.out))) : w.heap.size ≤ gb278)); have n4_ := Aside0.mk ((by rw [hg]; exact (zak (by with_reducible repeat (first | exact HB.out | apply zab | apply zaa | apply zac | refine zaf ?_ GE276.out))) : w.heap.size ≤ gb278)); have n5_ := Aside0.mk ((by rw [hg]; exact Nat.ne_of_lt (za3 (g := gb276) (o := .cells #[.int .u32 a0_0, .slice (some ad277) l0_1.length c0_1] 40 (0, 0)) (by (with_reducible repeat (first | refine zae ?_ _ | refine zaj ?_ | refine zad ?_ _)); exact BK276.out)) : gb276 ≠ gb278)); have n6_ := Aside0.mk ((by rw [hg]; exact Nat.ne_of_gt (za3 (g := gb276) (o := .cells #[.int .u32 a0_0, .slice (some ad277) l0_1.length c0_1] 40 (0, 0)) (by (with_reducible repeat (first | refine zae ?_ _ | refine zaj ?_ | refine zad ?_ _)); exact BK276.out)) : gb278 ≠ gb276)); clear BK276; clear HB; have BK276 := n0_; have HB := n1_; have BK278 := n2_; have GW278 := n3_; have GE278 := n4_; have NB276_278 := n5_; have NB278_276 := n6_; clear n0_ n1_ n2_ n3_ n4_ n5_ n6_; clear hb hbox hg; have hnb44 := NB278_276.out; have hnc44 := NB276_278.out; have hcz45_0 : w43.cell? ⟨gb278, 0, none⟩ = some (.int .u32 0) := (zai BK278.out 0).trans rfl; have hcz45_1 : w43.cell? ⟨gb278, 1, none⟩ = some (.int .u32 0) := (zai BK278.out 1).trans rfl; have hcz45_2 : w43.cell? ⟨gb278, 2, none⟩ = some (.int .i64 0) := (zai BK278.out 2).trans rfl; have hcz45_3 : w43.cell? ⟨gb278, 3, none⟩ = some (.slice none 0 0) := (zai BK278.out 3).trans rfl; have hfz45_0 := zah BK278.out 0; have hfz45_1 := zah BK278.out 1; have hfz45_2 := zah BK278.out 2; have hfz45_3 := zah BK278.out 3))
          repeat (go_quiet (first | ((with_reducible refine zax (N := 6) rfl ?_); (try (refine za6 (by rfl) ?_; dsimp only)); refine zau ?hg (N := 6) ?hd (cs := #[.int .u32 0, .int .u32 0, .int .i64 0, .slice none 0 0]) (t := 65) ?hr ?_; (case hd => rfl); (case hg => rfl); (case hr => first | (go_simp; done) | (go_simp; rfl)); intro gb278 hg w43 hbox hb; have n0_ := Aside0.mk (zaq (g := gb276) (o := .cells #[.int .u32 a0_0, .slice (some ad277) l0_1.length c0_1] 40 (0, 0)) (by (with_reducible repeat (first | refine zae ?_ _ | refine zaj ?_ | refine zad ?_ _)); exact BK276.out) hb); have n1_ := Aside0.mk (zam (by with_reducible repeat (first | exact HB.out | apply zab | apply zaa | apply zac | refine zaf ?_ GE276.out)) hb); have n2_ := Aside0.mk (hbox); have n3_ := Aside0.mk ((by rw [hg]; exact (zak (by with_reducible repeat (first | exact HB.out | apply zab | apply zaa | apply zac | refine zaf ?_ GE276.out))) : w.heap.size ≤ gb278)); have n4_ := Aside0.mk ((by rw [hg]; exact (zak (by with_reducible repeat (first | exact HB.out | apply zab | apply zaa | apply zac | refine zaf ?_ GE276.out))) : w.heap.size ≤ gb278)); have n5_ := Aside0.mk ((by rw [hg]; exact Nat.ne_of_lt (za3 (g := gb276) (o := .cells #[.int .u32 a0_0, .slice (some ad277) l0_1.length c0_1] 40 (0, 0)) (by (with_reducible repeat (first | refine zae ?_ _ | refine zaj ?_ | refine zad ?_ _)); exact BK276.out)) : gb276 ≠ gb278)); have n6_ := Aside0.mk ((by rw [hg]; exact Nat.ne_of_gt (za3 (g := gb276) (o := .cells #[.int .u32 a0_0, .slice (some ad277) l0_1.length c0_1] 40 (0, 0)) (by (with_reducible repeat (first | refine zae ?_ _ | refine zaj ?_ | refine zad ?_ _)); exact BK276.out)) : gb278 ≠ gb276)); clear BK276; clear HB; have BK276 := n0_; have HB := n1_; have BK278 := n2_; have GW278 := n3_; have GE278 := n4_; have NB276_278 := n5_; have NB278_276 := n6_; clear n0_ n1_ n2_ n3_ n4_ n5_ n6_; clear hb hbox hg; have hnb44 := NB278_276.out; have hnc44 := NB276_278.out; have hcz45_0 : w43.cell? ⟨gb278, 0, none⟩ = some (.int .u32 0) := (zai BK278.out 0).trans rfl; have hcz45_1 : w43.cell? ⟨gb278, 1, none⟩ = some (.int .u32 0) := (zai BK278.out 1).trans rfl; have hcz45_2 : w43.cell? ⟨gb278, 2, none⟩ = some (.int .i64 0) := (zai BK278.out 2).trans rfl; have hcz45_3 : w43.cell? ⟨gb278, 3, none⟩ = some (.slice none 0 0) := (zai BK278.out 3).trans rfl; have hfz45_0 := zah BK278.out 0; have hfz45_1 := zah BK278.out 1; have hfz45_2 := zah BK278.out 2; have hfz45_3 := zah BK278.out 3)); try go_wp2_with (first | ((with_reducible refine zax (N := 6) rfl ?_); (try (refine za6 (by rfl) ?_; dsimp only)); refine zau ?hg (N := 6) ?hd (cs := #[.int .u32 0, .int .u32 0, .int .i64 0, .slice none 0 0]) (t := 65) ?hr ?_; (case hd => rfl); (case hg => rfl); (case hr => first | (go_simp; done) | (go_simp; rfl)); intro gb278 hg w43 hbox hb; have n0_ := Aside0.mk (zaq (g := gb276) (o := .cells #[.int .u32 a0_0, .slice (some ad277) l0_1.length c0_1] 40 (0, 0)) (by (with_reducible repeat (first | refine zae ?_ _ | refine zaj ?_ | refine zad ?_ _)); exact BK276.out) hb); have n1_ := Aside0.mk (zam (by with_reducible repeat (first | exact HB.out | apply zab | apply zaa | apply zac | refine zaf ?_ GE276.out)) hb); have n2_ := Aside0.mk (hbox); have n3_ := Aside0.mk ((by rw [hg]; exact (zak (by with_reducible repeat (first | exact HB.out | apply zab | apply zaa | apply zac | refine zaf ?_ GE276.out))) : w.heap.size ≤ gb278)); have n4_ := Aside0.mk ((by rw [hg]; exact (zak (by with_reducible repeat (first | exact HB.out | apply zab | apply zaa | apply zac | refine zaf ?_ GE276.out))) : w.heap.size ≤ gb278)); have n5_ := Aside0.mk ((by rw [hg]; exact Nat.ne_of_lt (za3 (g := gb276) (o := .cells #[.int .u32 a0_0, .slice (some ad277) l0_1.length c0_1] 40 (0, 0)) (by (with_reducible repeat (first | refine zae ?_ _ | refine zaj ?_ | refine zad ?_ _)); exact BK276.out)) : gb276 ≠ gb278)); have n6_ := Aside0.mk ((by rw [hg]; exact Nat.ne_of_gt (za3 (g := gb276) (o := .cells #[.int .u32 a0_0, .slice (some ad277) l0_1.length c0_1] 40 (0, 0)) (by (with_reducible repeat (first | refine zae ?_ _ | refine zaj ?_ | refine zad ?_ _)); exact BK276.out)) : gb278 ≠ gb276)); clear BK276; clear HB; have BK276 := n0_; have HB := n1_; have BK278 := n2_; have GW278 := n3_; have GE278 := n4_; have NB276_278 := n5_; have NB278_276 := n6_; clear n0_ n1_ n2_ n3_ n4_ n5_ n6_; clear hb hbox hg; have hnb44 := NB278_276.out; have hnc44 := NB276_278.out; have hcz45_0 : w43.cell? ⟨gb278, 0, none⟩ = some (.int .u32 0) := (zai BK278.out 0).trans rfl; have hcz45_1 : w43.cell? ⟨gb278, 1, none⟩ = some (.int .u32 0) := (zai BK278.out 1).trans rfl; have hcz45_2 : w43.cell? ⟨gb278, 2, none⟩ = some (.int .i64 0) := (zai BK278.out 2).trans rfl; have hcz45_3 : w43.cell? ⟨gb278, 3, none⟩ = some (.slice none 0 0) := (zai BK278.out 3).trans rfl; have hfz45_0 := zah BK278.out 0; have hfz45_1 := zah BK278.out 1; have hfz45_2 := zah BK278.out 2; have hfz45_3 := zah BK278.out 3)))
          go_ret
          exact ⟨by first | rfl | (simp [*]; done) | (simp [*, zaz, zay] <;> rfl), by repeat (first | (with_reducible first | exact HB.out | apply zab | apply zaa | apply zac | refine zaf ?_ GE276.out | refine zaf ?_ GE278.out) | exact HB.out)⟩
        rw [if_pos c12] at H; have c12b0 : ((Int.tmod ((zal l0_1 x5_1).f0) 256) == 0) = true := beq_iff_eq.mpr c12; have c12b1 : ((Int.tmod ((zal l0_1 x5_1).f0) 256) != 0) = false := bne_eq_false_iff_eq.mpr c12; clear c12
        by_cases c13 : ((zal l0_1 x5_1).f1) = 0
        · rw [if_pos c13] at H
          have c13b0 : (((zal l0_1 x5_1).f1) == 0) = true := beq_iff_eq.mpr c13; have c13b1 : (((zal l0_1 x5_1).f1) != 0) = false := bne_eq_false_iff_eq.mpr c13; clear c13; obtain rfl := Option.some.inj H; have hcz14_0 : wr.cell? ⟨gb276, 0, none⟩ = some (.int .u32 a0_0) := (zai BK276.out 0).trans rfl; have hcz14_1 : wr.cell? ⟨gb276, 1, none⟩ = some (.slice A0_1 l0_1.length c0_1) := (zai BK276.out 1).trans rfl; have hfz14_0 := zah BK276.out 0; have hfz14_1 := zah BK276.out 1; have p277 : 0 ≤ (x5_1 : Int) := of_decide_eq_true (by assumption); have q277 : x5_1 < (l0_1.length : Int) := of_decide_eq_true (by assumption); obtain ⟨ad277, A277_3, c277_3, e277, hx277_0, hx277_1, hx277_2, hx277_3, hl277_3, hi277_3⟩ := zc6 HR0_1.out x5_1 p277 q277; cases e277
          replace hx277_0 := (HB.out.cell (World.block_lt_of_cell? w _ hx277_0)).trans hx277_0
          replace hx277_1 := (HB.out.cell (World.block_lt_of_cell? w _ hx277_1)).trans hx277_1
          replace hx277_2 := (HB.out.cell (World.block_lt_of_cell? w _ hx277_2)).trans hx277_2
          replace hx277_3 := (HB.out.cell (World.block_lt_of_cell? w _ hx277_3)).trans hx277_3
          have HR277_3 := Aside0.mk hi277_3; have HC277_3 := Aside0.mk hl277_3; clear hi277_3 hl277_3
          replace p277 := eq_true p277
          replace q277 := eq_true q277
          go_wp2_with (first | ((with_reducible refine zax (N := 6) rfl ?_); (try (refine za6 (by rfl) ?_; dsimp only)); refine zau ?hg (N := 6) ?hd (cs := #[.int .u32 0, .int .u32 0, .int .i64 0, .slice none 0 0]) (t := 65) ?hr ?_; (case hd => rfl); (case hg => rfl); (case hr => first | (go_simp; done) | (go_simp; rfl)); intro gb278 hg w15 hbox hb; have n0_ := Aside0.mk (zaq (g := gb276) (o := .cells #[.int .u32 a0_0, .slice (some ad277) l0_1.length c0_1] 40 (0, 0)) (by (with_reducible repeat (first | refine zae ?_ _ | refine zaj ?_ | refine zad ?_ _)); exact BK276.out) hb); have n1_ := Aside0.mk (zam (by with_reducible repeat (first | exact HB.out | apply zab | apply zaa | apply zac | refine zaf ?_ GE276.out)) hb); have n2_ := Aside0.mk (hbox); have n3_ := Aside0.mk ((by rw [hg]; exact (zak (by with_reducible repeat (first | exact HB.out | apply zab | apply zaa | apply zac | refine zaf ?_ GE276.out))) : w.heap.size ≤ gb278)); have n4_ := Aside0.mk ((by rw [hg]; exact (zak (by with_reducible repeat (first | exact HB.out | apply zab | apply zaa | apply zac | refine zaf ?_ GE276.out))) : w.heap.size ≤ gb278)); have n5_ := Aside0.mk ((by rw [hg]; exact Nat.ne_of_lt (za3 (g := gb276) (o := .cells #[.int .u32 a0_0, .slice (some ad277) l0_1.length c0_1] 40 (0, 0)) (by (with_reducible repeat (first | refine zae ?_ _ | refine zaj ?_ | refine zad ?_ _)); exact BK276.out)) : gb276 ≠ gb278)); have n6_ := Aside0.mk ((by rw [hg]; exact Nat.ne_of_gt (za3 (g := gb276) (o := .cells #[.int .u32 a0_0, .slice (some ad277) l0_1.length c0_1] 40 (0, 0)) (by (with_reducible repeat (first | refine zae ?_ _ | refine zaj ?_ | refine zad ?_ _)); exact BK276.out)) : gb278 ≠ gb276)); clear BK276; clear HB; have BK276 := n0_; have HB := n1_; have BK278 := n2_; have GW278 := n3_; have GE278 := n4_; have NB276_278 := n5_; have NB278_276 := n6_; clear n0_ n1_ n2_ n3_ n4_ n5_ n6_; clear hb hbox hg; have hnb16 := NB278_276.out; have hnc16 := NB276_278.out; have hcz17_0 : w15.cell? ⟨gb278, 0, none⟩ = some (.int .u32 0) := (zai BK278.out 0).trans rfl; have hcz17_1 : w15.cell? ⟨gb278, 1, none⟩ = some (.int .u32 0) := (zai BK278.out 1).trans rfl; have hcz17_2 : w15.cell? ⟨gb278, 2, none⟩ = some (.int .i64 0) := (zai BK278.out 2).trans rfl; have hcz17_3 : w15.cell? ⟨gb278, 3, none⟩ = some (.slice none 0 0) := (zai BK278.out 3).trans rfl; have hfz17_0 := zah BK278.out 0; have hfz17_1 := zah BK278.out 1; have hfz17_2 := zah BK278.out 2; have hfz17_3 := zah BK278.out 3))
          repeat (go_quiet (first | ((with_reducible refine zax (N := 6) rfl ?_); (try (refine za6 (by rfl) ?_; dsimp only)); refine zau ?hg (N := 6) ?hd (cs := #[.int .u32 0, .int .u32 0, .int .i64 0, .slice none 0 0]) (t := 65) ?hr ?_; (case hd => rfl); (case hg => rfl); (case hr => first | (go_simp; done) | (go_simp; rfl)); intro gb278 hg w15 hbox hb; have n0_ := Aside0.mk (zaq (g := gb276) (o := .cells #[.int .u32 a0_0, .slice (some ad277) l0_1.length c0_1] 40 (0, 0)) (by (with_reducible repeat (first | refine zae ?_ _ | refine zaj ?_ | refine zad ?_ _)); exact BK276.out) hb); have n1_ := Aside0.mk (zam (by with_reducible repeat (first | exact HB.out | apply zab | apply zaa | apply zac | refine zaf ?_ GE276.out)) hb); have n2_ := Aside0.mk (hbox); have n3_ := Aside0.mk ((by rw [hg]; exact (zak (by with_reducible repeat (first | exact HB.out | apply zab | apply zaa | apply zac | refine zaf ?_ GE276.out))) : w.heap.size ≤ gb278)); have n4_ := Aside0.mk ((by rw [hg]; exact (zak (by with_reducible repeat (first | exact HB.out | apply zab | apply zaa | apply zac | refine zaf ?_ GE276.out))) : w.heap.size ≤ gb278)); have n5_ := Aside0.mk ((by rw [hg]; exact Nat.ne_of_lt (za3 (g := gb276) (o := .cells #[.int .u32 a0_0, .slice (some ad277) l0_1.length c0_1] 40 (0, 0)) (by (with_reducible repeat (first | refine zae ?_ _ | refine zaj ?_ | refine zad ?_ _)); exact BK276.out)) : gb276 ≠ gb278)); have n6_ := Aside0.mk ((by rw [hg]; exact Nat.ne_of_gt (za3 (g := gb276) (o := .cells #[.int .u32 a0_0, .slice (some ad277) l0_1.length c0_1] 40 (0, 0)) (by (with_reducible repeat (first | refine zae ?_ _ | refine zaj ?_ | refine zad ?_ _)); exact BK276.out)) : gb278 ≠ gb276)); clear BK276; clear HB; have BK276 := n0_; have HB := n1_; have BK278 := n2_; have GW278 := n3_; have GE278 := n4_; have NB276_278 := n5_; have NB278_276 := n6_; clear n0_ n1_ n2_ n3_ n4_ n5_ n6_; clear hb hbox hg; have hnb16 := NB278_276.out; have hnc16 := NB276_278.out; have hcz17_0 : w15.cell? ⟨gb278, 0, none⟩ = some (.int .u32 0) := (zai BK278.out 0).trans rfl; have hcz17_1 : w15.cell? ⟨gb278, 1, none⟩ = some (.int .u32 0) := (zai BK278.out 1).trans rfl; have hcz17_2 : w15.cell? ⟨gb278, 2, none⟩ = some (.int .i64 0) := (zai BK278.out 2).trans rfl; have hcz17_3 : w15.cell? ⟨gb278, 3, none⟩ = some (.slice none 0 0) := (zai BK278.out 3).trans rfl; have hfz17_0 := zah BK278.out 0; have hfz17_1 := zah BK278.out 1; have hfz17_2 := zah BK278.out 2; have hfz17_3 := zah BK278.out 3)); try go_wp2_with (first | ((with_reducible refine zax (N := 6) rfl ?_); (try (refine za6 (by rfl) ?_; dsimp only)); refine zau ?hg (N := 6) ?hd (cs := #[.int .u32 0, .int .u32 0, .int .i64 0, .slice none 0 0]) (t := 65) ?hr ?_; (case hd => rfl); (case hg => rfl); (case hr => first | (go_simp; done) | (go_simp; rfl)); intro gb278 hg w15 hbox hb; have n0_ := Aside0.mk (zaq (g := gb276) (o := .cells #[.int .u32 a0_0, .slice (some ad277) l0_1.length c0_1] 40 (0, 0)) (by (with_reducible repeat (first | refine zae ?_ _ | refine zaj ?_ | refine zad ?_ _)); exact BK276.out) hb); have n1_ := Aside0.mk (zam (by with_reducible repeat (first | exact HB.out | apply zab | apply zaa | apply zac | refine zaf ?_ GE276.out)) hb); have n2_ := Aside0.mk (hbox); have n3_ := Aside0.mk ((by rw [hg]; exact (zak (by with_reducible repeat (first | exact HB.out | apply zab | apply zaa | apply zac | refine zaf ?_ GE276.out))) : w.heap.size ≤ gb278)); have n4_ := Aside0.mk ((by rw [hg]; exact (zak (by with_reducible repeat (first | exact HB.out | apply zab | apply zaa | apply zac | refine zaf ?_ GE276.out))) : w.heap.size ≤ gb278)); have n5_ := Aside0.mk ((by rw [hg]; exact Nat.ne_of_lt (za3 (g := gb276) (o := .cells #[.int .u32 a0_0, .slice (some ad277) l0_1.length c0_1] 40 (0, 0)) (by (with_reducible repeat (first | refine zae ?_ _ | refine zaj ?_ | refine zad ?_ _)); exact BK276.out)) : gb276 ≠ gb278)); have n6_ := Aside0.mk ((by rw [hg]; exact Nat.ne_of_gt (za3 (g := gb276) (o := .cells #[.int .u32 a0_0, .slice (some ad277) l0_1.length c0_1] 40 (0, 0)) (by (with_reducible repeat (first | refine zae ?_ _ | refine zaj ?_ | refine zad ?_ _)); exact BK276.out)) : gb278 ≠ gb276)); clear BK276; clear HB; have BK276 := n0_; have HB := n1_; have BK278 := n2_; have GW278 := n3_; have GE278 := n4_; have NB276_278 := n5_; have NB278_276 := n6_; clear n0_ n1_ n2_ n3_ n4_ n5_ n6_; clear hb hbox hg; have hnb16 := NB278_276.out; have hnc16 := NB276_278.out; have hcz17_0 : w15.cell? ⟨gb278, 0, none⟩ = some (.int .u32 0) := (zai BK278.out 0).trans rfl; have hcz17_1 : w15.cell? ⟨gb278, 1, none⟩ = some (.int .u32 0) := (zai BK278.out 1).trans rfl; have hcz17_2 : w15.cell? ⟨gb278, 2, none⟩ = some (.int .i64 0) := (zai BK278.out 2).trans rfl; have hcz17_3 : w15.cell? ⟨gb278, 3, none⟩ = some (.slice none 0 0) := (zai BK278.out 3).trans rfl; have hfz17_0 := zah BK278.out 0; have hfz17_1 := zah BK278.out 1; have hfz17_2 := zah BK278.out 2; have hfz17_3 := zah BK278.out 3)))
          go_ret
          exact ⟨by first | rfl | (simp [*]; done) | (simp [*, zaz, zay] <;> rfl), by repeat (first | (with_reducible first | exact HB.out | apply zab | apply zaa | apply zac | refine zaf ?_ GE276.out | refine zaf ?_ GE278.out) | exact HB.out)⟩
        rw [if_neg c13] at H; have c13b0 : (((zal l0_1 x5_1).f1) == 0) = false := beq_eq_false_iff_ne.mpr c13; have c13b1 : (((zal l0_1 x5_1).f1) != 0) = true := bne_iff_ne.mpr c13
        by_cases c18 : (wrap64 ((zal l0_1 x5_1).f1)) < (((zal l0_1 x5_1).f3).length : Int)
        · rw [if_pos c18] at H
          have c18b0 : decide ((wrap64 ((zal l0_1 x5_1).f1)) < (((zal l0_1 x5_1).f3).length : Int)) = true := decide_eq_true c18; clear c18; obtain rfl := Option.some.inj H; have hcz19_0 : wr.cell? ⟨gb276, 0, none⟩ = some (.int .u32 a0_0) := (zai BK276.out 0).trans rfl; have hcz19_1 : wr.cell? ⟨gb276, 1, none⟩ = some (.slice A0_1 l0_1.length c0_1) := (zai BK276.out 1).trans rfl; have hfz19_0 := zah BK276.out 0; have hfz19_1 := zah BK276.out 1; have p277 : 0 ≤ (x5_1 : Int) := of_decide_eq_true (by assumption); have q277 : x5_1 < (l0_1.length : Int) := of_decide_eq_true (by assumption); obtain ⟨ad277, A277_3, c277_3, e277, hx277_0, hx277_1, hx277_2, hx277_3, hl277_3, hi277_3⟩ := zc6 HR0_1.out x5_1 p277 q277; cases e277
          replace hx277_0 := (HB.out.cell (World.block_lt_of_cell? w _ hx277_0)).trans hx277_0
          replace hx277_1 := (HB.out.cell (World.block_lt_of_cell? w _ hx277_1)).trans hx277_1
          replace hx277_2 := (HB.out.cell (World.block_lt_of_cell? w _ hx277_2)).trans hx277_2
          replace hx277_3 := (HB.out.cell (World.block_lt_of_cell? w _ hx277_3)).trans hx277_3
          have HR277_3 := Aside0.mk hi277_3; have HC277_3 := Aside0.mk hl277_3; clear hi277_3 hl277_3
          replace p277 := eq_true p277
          replace q277 := eq_true q277
          go_wp2_with (first | ((with_reducible refine zax (N := 6) rfl ?_); (try (refine za6 (by rfl) ?_; dsimp only)); refine zau ?hg (N := 6) ?hd (cs := #[.int .u32 0, .int .u32 0, .int .i64 0, .slice none 0 0]) (t := 65) ?hr ?_; (case hd => rfl); (case hg => rfl); (case hr => first | (go_simp; done) | (go_simp; rfl)); intro gb278 hg w20 hbox hb; have n0_ := Aside0.mk (zaq (g := gb276) (o := .cells #[.int .u32 a0_0, .slice (some ad277) l0_1.length c0_1] 40 (0, 0)) (by (with_reducible repeat (first | refine zae ?_ _ | refine zaj ?_ | refine zad ?_ _)); exact BK276.out) hb); have n1_ := Aside0.mk (zam (by with_reducible repeat (first | exact HB.out | apply zab | apply zaa | apply zac | refine zaf ?_ GE276.out)) hb); have n2_ := Aside0.mk (hbox); have n3_ := Aside0.mk ((by rw [hg]; exact (zak (by with_reducible repeat (first | exact HB.out | apply zab | apply zaa | apply zac | refine zaf ?_ GE276.out))) : w.heap.size ≤ gb278)); have n4_ := Aside0.mk ((by rw [hg]; exact (zak (by with_reducible repeat (first | exact HB.out | apply zab | apply zaa | apply zac | refine zaf ?_ GE276.out))) : w.heap.size ≤ gb278)); have n5_ := Aside0.mk ((by rw [hg]; exact Nat.ne_of_lt (za3 (g := gb276) (o := .cells #[.int .u32 a0_0, .slice (some ad277) l0_1.length c0_1] 40 (0, 0)) (by (with_reducible repeat (first | refine zae ?_ _ | refine zaj ?_ | refine zad ?_ _)); exact BK276.out)) : gb276 ≠ gb278)); have n6_ := Aside0.mk ((by rw [hg]; exact Nat.ne_of_gt (za3 (g := gb276) (o := .cells #[.int .u32 a0_0, .slice (some ad277) l0_1.length c0_1] 40 (0, 0)) (by (with_reducible repeat (first | refine zae ?_ _ | refine zaj ?_ | refine zad ?_ _)); exact BK276.out)) : gb278 ≠ gb276)); clear BK276; clear HB; have BK276 := n0_; have HB := n1_; have BK278 := n2_; have GW278 := n3_; have GE278 := n4_; have NB276_278 := n5_; have NB278_276 := n6_; clear n0_ n1_ n2_ n3_ n4_ n5_ n6_; clear hb hbox hg; have hnb21 := NB278_276.out; have hnc21 := NB276_278.out; have hcz22_0 : w20.cell? ⟨gb278, 0, none⟩ = some (.int .u32 0) := (zai BK278.out 0).trans rfl; have hcz22_1 : w20.cell? ⟨gb278, 1, none⟩ = some (.int .u32 0) := (zai BK278.out 1).trans rfl; have hcz22_2 : w20.cell? ⟨gb278, 2, none⟩ = some (.int .i64 0) := (zai BK278.out 2).trans rfl; have hcz22_3 : w20.cell? ⟨gb278, 3, none⟩ = some (.slice none 0 0) := (zai BK278.out 3).trans rfl; have hfz22_0 := zah BK278.out 0; have hfz22_1 := zah BK278.out 1; have hfz22_2 := zah BK278.out 2; have hfz22_3 := zah BK278.out 3))
          repeat (go_quiet (first | ((with_reducible refine zax (N := 6) rfl ?_); (try (refine za6 (by rfl) ?_; dsimp only)); refine zau ?hg (N := 6) ?hd (cs := #[.int .u32 0, .int .u32 0, .int .i64 0, .slice none 0 0]) (t := 65) ?hr ?_; (case hd => rfl); (case hg => rfl); (case hr => first | (go_simp; done) | (go_simp; rfl)); intro gb278 hg w20 hbox hb; have n0_ := Aside0.mk (zaq (g := gb276) (o := .cells #[.int .u32 a0_0, .slice (some ad277) l0_1.length c0_1] 40 (0, 0)) (by (with_reducible repeat (first | refine zae ?_ _ | refine zaj ?_ | refine zad ?_ _)); exact BK276.out) hb); have n1_ := Aside0.mk (zam (by with_reducible repeat (first | exact HB.out | apply zab | apply zaa | apply zac | refine zaf ?_ GE276.out)) hb); have n2_ := Aside0.mk (hbox); have n3_ := Aside0.mk ((by rw [hg]; exact (zak (by with_reducible repeat (first | exact HB.out | apply zab | apply zaa | apply zac | refine zaf ?_ GE276.out))) : w.heap.size ≤ gb278)); have n4_ := Aside0.mk ((by rw [hg]; exact (zak (by with_reducible repeat (first | exact HB.out | apply zab | apply zaa | apply zac | refine zaf ?_ GE276.out))) : w.heap.size ≤ gb278)); have n5_ := Aside0.mk ((by rw [hg]; exact Nat.ne_of_lt (za3 (g := gb276) (o := .cells #[.int .u32 a0_0, .slice (some ad277) l0_1.length c0_1] 40 (0, 0)) (by (with_reducible repeat (first | refine zae ?_ _ | refine zaj ?_ | refine zad ?_ _)); exact BK276.out)) : gb276 ≠ gb278)); have n6_ := Aside0.mk ((by rw [hg]; exact Nat.ne_of_gt (za3 (g := gb276) (o := .cells #[.int .u32 a0_0, .slice (some ad277) l0_1.length c0_1] 40 (0, 0)) (by (with_reducible repeat (first | refine zae ?_ _ | refine zaj ?_ | refine zad ?_ _)); exact BK276.out)) : gb278 ≠ gb276)); clear BK276; clear HB; have BK276 := n0_; have HB := n1_; have BK278 := n2_; have GW278 := n3_; have GE278 := n4_; have NB276_278 := n5_; have NB278_276 := n6_; clear n0_ n1_ n2_ n3_ n4_ n5_ n6_; clear hb hbox hg; have hnb21 := NB278_276.out; have hnc21 := NB276_278.out; have hcz22_0 : w20.cell? ⟨gb278, 0, none⟩ = some (.int .u32 0) := (zai BK278.out 0).trans rfl; have hcz22_1 : w20.cell? ⟨gb278, 1, none⟩ = some (.int .u32 0) := (zai BK278.out 1).trans rfl; have hcz22_2 : w20.cell? ⟨gb278, 2, none⟩ = some (.int .i64 0) := (zai BK278.out 2).trans rfl; have hcz22_3 : w20.cell? ⟨gb278, 3, none⟩ = some (.slice none 0 0) := (zai BK278.out 3).trans rfl; have hfz22_0 := zah BK278.out 0; have hfz22_1 := zah BK278.out 1; have hfz22_2 := zah BK278.out 2; have hfz22_3 := zah BK278.out 3)); try go_wp2_with (first | ((with_reducible refine zax (N := 6) rfl ?_); (try (refine za6 (by rfl) ?_; dsimp only)); refine zau ?hg (N := 6) ?hd (cs := #[.int .u32 0, .int .u32 0, .int .i64 0, .slice none 0 0]) (t := 65) ?hr ?_; (case hd => rfl); (case hg => rfl); (case hr => first | (go_simp; done) | (go_simp; rfl)); intro gb278 hg w20 hbox hb; have n0_ := Aside0.mk (zaq (g := gb276) (o := .cells #[.int .u32 a0_0, .slice (some ad277) l0_1.length c0_1] 40 (0, 0)) (by (with_reducible repeat (first | refine zae ?_ _ | refine zaj ?_ | refine zad ?_ _)); exact BK276.out) hb); have n1_ := Aside0.mk (zam (by with_reducible repeat (first | exact HB.out | apply zab | apply zaa | apply zac | refine zaf ?_ GE276.out)) hb); have n2_ := Aside0.mk (hbox); have n3_ := Aside0.mk ((by rw [hg]; exact (zak (by with_reducible repeat (first | exact HB.out | apply zab | apply zaa | apply zac | refine zaf ?_ GE276.out))) : w.heap.size ≤ gb278)); have n4_ := Aside0.mk ((by rw [hg]; exact (zak (by with_reducible repeat (first | exact HB.out | apply zab | apply zaa | apply zac | refine zaf ?_ GE276.out))) : w.heap.size ≤ gb278)); have n5_ := Aside0.mk ((by rw [hg]; exact Nat.ne_of_lt (za3 (g := gb276) (o := .cells #[.int .u32 a0_0, .slice (some ad277) l0_1.length c0_1] 40 (0, 0)) (by (with_reducible repeat (first | refine zae ?_ _ | refine zaj ?_ | refine zad ?_ _)); exact BK276.out)) : gb276 ≠ gb278)); have n6_ := Aside0.mk ((by rw [hg]; exact Nat.ne_of_gt (za3 (g := gb276) (o := .cells #[.int .u32 a0_0, .slice (some ad277) l0_1.length c0_1] 40 (0, 0)) (by (with_reducible repeat (first | refine zae ?_ _ | refine zaj ?_ | refine zad ?_ _)); exact BK276.out)) : gb278 ≠ gb276)); clear BK276; clear HB; have BK276 := n0_; have HB := n1_; have BK278 := n2_; have GW278 := n3_; have GE278 := n4_; have NB276_278 := n5_; have NB278_276 := n6_; clear n0_ n1_ n2_ n3_ n4_ n5_ n6_; clear hb hbox hg; have hnb21 := NB278_276.out; have hnc21 := NB276_278.out; have hcz22_0 : w20.cell? ⟨gb278, 0, none⟩ = some (.int .u32 0) := (zai BK278.out 0).trans rfl; have hcz22_1 : w20.cell? ⟨gb278, 1, none⟩ = some (.int .u32 0) := (zai BK278.out 1).trans rfl; have hcz22_2 : w20.cell? ⟨gb278, 2, none⟩ = some (.int .i64 0) := (zai BK278.out 2).trans rfl; have hcz22_3 : w20.cell? ⟨gb278, 3, none⟩ = some (.slice none 0 0) := (zai BK278.out 3).trans rfl; have hfz22_0 := zah BK278.out 0; have hfz22_1 := zah BK278.out 1; have hfz22_2 := zah BK278.out 2; have hfz22_3 := zah BK278.out 3)))
          go_ret
          exact ⟨by first | rfl | (simp [*]; done) | (simp [*, zaz, zay] <;> rfl), by repeat (first | (with_reducible first | exact HB.out | apply zab | apply zaa | apply zac | refine zaf ?_ GE276.out | refine zaf ?_ GE278.out) | exact HB.out)⟩
        rw [if_neg c18] at H; have c18b0 : decide ((wrap64 ((zal l0_1 x5_1).f1)) < (((zal l0_1 x5_1).f3).length : Int)) = false := decide_eq_false c18; clear c18
        by_cases c23 : (wrap64 ((wrap64 ((zal l0_1 x5_1).f0)) + (wrap64 ((zal l0_1 x5_1).f1)))) > 4294967296
        · rw [if_pos c23] at H
          have c23b0 : decide (4294967296 < (wrap64 ((wrap64 ((zal l0_1 x5_1).f0)) + (wrap64 ((zal l0_1 x5_1).f1))))) = true := decide_eq_true c23; clear c23; obtain rfl := Option.some.inj H; have hcz24_0 : wr.cell? ⟨gb276, 0, none⟩ = some (.int .u32 a0_0) := (zai BK276.out 0).trans rfl; have hcz24_1 : wr.cell? ⟨gb276, 1, none⟩ = some (.slice A0_1 l0_1.length c0_1) := (zai BK276.out 1).trans rfl; have hfz24_0 := zah BK276.out 0; have hfz24_1 := zah BK276.out 1; have p277 : 0 ≤ (x5_1 : Int) := of_decide_eq_true (by assumption); have q277 : x5_1 < (l0_1.length : Int) := of_decide_eq_true (by assumption); obtain ⟨ad277, A277_3, c277_3, e277, hx277_0, hx277_1, hx277_2, hx277_3, hl277_3, hi277_3⟩ := zc6 HR0_1.out x5_1 p277 q277; cases e277
          replace hx277_0 := (HB.out.cell (World.block_lt_of_cell? w _ hx277_0)).trans hx277_0
          replace hx277_1 := (HB.out.cell (World.block_lt_of_cell? w _ hx277_1)).trans hx277_1
          replace hx277_2 := (HB.out.cell (World.block_lt_of_cell? w _ hx277_2)).trans hx277_2
          replace hx277_3 := (HB.out.cell (World.block_lt_of_cell? w _ hx277_3)).trans hx277_3
          have HR277_3 := Aside0.mk hi277_3; have HC277_3 := Aside0.mk hl277_3; clear hi277_3 hl277_3
          replace p277 := eq_true p277
          replace q277 := eq_true q277
          go_wp2_with (first | ((with_reducible refine zax (N := 6) rfl ?_); (try (refine za6 (by rfl) ?_; dsimp only)); refine zau ?hg (N := 6) ?hd (cs := #[.int .u32 0, .int .u32 0, .int .i64 0, .slice none 0 0]) (t := 65) ?hr ?_; (case hd => rfl); (case hg => rfl); (case hr => first | (go_simp; done) | (go_simp; rfl)); intro gb278 hg w25 hbox hb; have n0_ := Aside0.mk (zaq (g := gb276) (o := .cells #[.int .u32 a0_0, .slice (some ad277) l0_1.length c0_1] 40 (0, 0)) (by (with_reducible repeat (first | refine zae ?_ _ | refine zaj ?_ | refine zad ?_ _)); exact BK276.out) hb); have n1_ := Aside0.mk (zam (by with_reducible repeat (first | exact HB.out | apply zab | apply zaa | apply zac | refine zaf ?_ GE276.out)) hb); have n2_ := Aside0.mk (hbox); have n3_ := Aside0.mk ((by rw [hg]; exact (zak (by with_reducible repeat (first | exact HB.out | apply zab | apply zaa | apply zac | refine zaf ?_ GE276.out))) : w.heap.size ≤ gb278)); have n4_ := Aside0.mk ((by rw [hg]; exact (zak (by with_reducible repeat (first | exact HB.out | apply zab | apply zaa | apply zac | refine zaf ?_ GE276.out))) : w.heap.size ≤ gb278)); have n5_ := Aside0.mk ((by rw [hg]; exact Nat.ne_of_lt (za3 (g := gb276) (o := .cells #[.int .u32 a0_0, .slice (some ad277) l0_1.length c0_1] 40 (0, 0)) (by (with_reducible repeat (first | refine zae ?_ _ | refine zaj ?_ | refine zad ?_ _)); exact BK276.out)) : gb276 ≠ gb278)); have n6_ := Aside0.mk ((by rw [hg]; exact Nat.ne_of_gt (za3 (g := gb276) (o := .cells #[.int .u32 a0_0, .slice (some ad277) l0_1.length c0_1] 40 (0, 0)) (by (with_reducible repeat (first | refine zae ?_ _ | refine zaj ?_ | refine zad ?_ _)); exact BK276.out)) : gb278 ≠ gb276)); clear BK276; clear HB; have BK276 := n0_; have HB := n1_; have BK278 := n2_; have GW278 := n3_; have GE278 := n4_; have NB276_278 := n5_; have NB278_276 := n6_; clear n0_ n1_ n2_ n3_ n4_ n5_ n6_; clear hb hbox hg; have hnb26 := NB278_276.out; have hnc26 := NB276_278.out; have hcz27_0 : w25.cell? ⟨gb278, 0, none⟩ = some (.int .u32 0) := (zai BK278.out 0).trans rfl; have hcz27_1 : w25.cell? ⟨gb278, 1, none⟩ = some (.int .u32 0) := (zai BK278.out 1).trans rfl; have hcz27_2 : w25.cell? ⟨gb278, 2, none⟩ = some (.int .i64 0) := (zai BK278.out 2).trans rfl; have hcz27_3 : w25.cell? ⟨gb278, 3, none⟩ = some (.slice none 0 0) := (zai BK278.out 3).trans rfl; have hfz27_0 := zah BK278.out 0; have hfz27_1 := zah BK278.out 1; have hfz27_2 := zah BK278.out 2; have hfz27_3 := zah BK278.out 3))
          repeat (go_quiet (first | ((with_reducible refine zax (N := 6) rfl ?_); (try (refine za6 (by rfl) ?_; dsimp only)); refine zau ?hg (N := 6) ?hd (cs := #[.int .u32 0, .int .u32 0, .int .i64 0, .slice none 0 0]) (t := 65) ?hr ?_; (case hd => rfl); (case hg => rfl); (case hr => first | (go_simp; done) | (go_simp; rfl)); intro gb278 hg w25 hbox hb; have n0_ := Aside0.mk (zaq (g := gb276) (o := .cells #[.int .u32 a0_0, .slice (some ad277) l0_1.length c0_1] 40 (0, 0)) (by (with_reducible repeat (first | refine zae ?_ _ | refine zaj ?_ | refine zad ?_ _)); exact BK276.out) hb); have n1_ := Aside0.mk (zam (by with_reducible repeat (first | exact HB.out | apply zab | apply zaa | apply zac | refine zaf ?_ GE276.out)) hb); have n2_ := Aside0.mk (hbox); have n3_ := Aside0.mk ((by rw [hg]; exact (zak (by with_reducible repeat (first | exact HB.out | apply zab | apply zaa | apply zac | refine zaf ?_ GE276.out))) : w.heap.size ≤ gb278)); have n4_ := Aside0.mk ((by rw [hg]; exact (zak (by with_reducible repeat (first | exact HB.out | apply zab | apply zaa | apply zac | refine zaf ?_ GE276.out))) : w.heap.size ≤ gb278)); have n5_ := Aside0.mk ((by rw [hg]; exact Nat.ne_of_lt (za3 (g := gb276) (o := .cells #[.int .u32 a0_0, .slice (some ad277) l0_1.length c0_1] 40 (0, 0)) (by (with_reducible repeat (first | refine zae ?_ _ | refine zaj ?_ | refine zad ?_ _)); exact BK276.out)) : gb276 ≠ gb278)); have n6_ := Aside0.mk ((by rw [hg]; exact Nat.ne_of_gt (za3 (g := gb276) (o := .cells #[.int .u32 a0_0, .slice (some ad277) l0_1.length c0_1] 40 (0, 0)) (by (with_reducible repeat (first | refine zae ?_ _ | refine zaj ?_ | refine zad ?_ _)); exact BK276.out)) : gb278 ≠ gb276)); clear BK276; clear HB; have BK276 := n0_; have HB := n1_; have BK278 := n2_; have GW278 := n3_; have GE278 := n4_; have NB276_278 := n5_; have NB278_276 := n6_; clear n0_ n1_ n2_ n3_ n4_ n5_ n6_; clear hb hbox hg; have hnb26 := NB278_276.out; have hnc26 := NB276_278.out; have hcz27_0 : w25.cell? ⟨gb278, 0, none⟩ = some (.int .u32 0) := (zai BK278.out 0).trans rfl; have hcz27_1 : w25.cell? ⟨gb278, 1, none⟩ = some (.int .u32 0) := (zai BK278.out 1).trans rfl; have hcz27_2 : w25.cell? ⟨gb278, 2, none⟩ = some (.int .i64 0) := (zai BK278.out 2).trans rfl; have hcz27_3 : w25.cell? ⟨gb278, 3, none⟩ = some (.slice none 0 0) := (zai BK278.out 3).trans rfl; have hfz27_0 := zah BK278.out 0; have hfz27_1 := zah BK278.out 1; have hfz27_2 := zah BK278.out 2; have hfz27_3 := zah BK278.out 3)); try go_wp2_with (first | ((with_reducible refine zax (N := 6) rfl ?_); (try (refine za6 (by rfl) ?_; dsimp only)); refine zau ?hg (N := 6) ?hd (cs := #[.int .u32 0, .int .u32 0, .int .i64 0, .slice none 0 0]) (t := 65) ?hr ?_; (case hd => rfl); (case hg => rfl); (case hr => first | (go_simp; done) | (go_simp; rfl)); intro gb278 hg w25 hbox hb; have n0_ := Aside0.mk (zaq (g := gb276) (o := .cells #[.int .u32 a0_0, .slice (some ad277) l0_1.length c0_1] 40 (0, 0)) (by (with_reducible repeat (first | refine zae ?_ _ | refine zaj ?_ | refine zad ?_ _)); exact BK276.out) hb); have n1_ := Aside0.mk (zam (by with_reducible repeat (first | exact HB.out | apply zab | apply zaa | apply zac | refine zaf ?_ GE276.out)) hb); have n2_ := Aside0.mk (hbox); have n3_ := Aside0.mk ((by rw [hg]; exact (zak (by with_reducible repeat (first | exact HB.out | apply zab | apply zaa | apply zac | refine zaf ?_ GE276.out))) : w.heap.size ≤ gb278)); have n4_ := Aside0.mk ((by rw [hg]; exact (zak (by with_reducible repeat (first | exact HB.out | apply zab | apply zaa | apply zac | refine zaf ?_ GE276.out))) : w.heap.size ≤ gb278)); have n5_ := Aside0.mk ((by rw [hg]; exact Nat.ne_of_lt (za3 (g := gb276) (o := .cells #[.int .u32 a0_0, .slice (some ad277) l0_1.length c0_1] 40 (0, 0)) (by (with_reducible repeat (first | refine zae ?_ _ | refine zaj ?_ | refine zad ?_ _)); exact BK276.out)) : gb276 ≠ gb278)); have n6_ := Aside0.mk ((by rw [hg]; exact Nat.ne_of_gt (za3 (g := gb276) (o := .cells #[.int .u32 a0_0, .slice (some ad277) l0_1.length c0_1] 40 (0, 0)) (by (with_reducible repeat (first | refine zae ?_ _ | refine zaj ?_ | refine zad ?_ _)); exact BK276.out)) : gb278 ≠ gb276)); clear BK276; clear HB; have BK276 := n0_; have HB := n1_; have BK278 := n2_; have GW278 := n3_; have GE278 := n4_; have NB276_278 := n5_; have NB278_276 := n6_; clear n0_ n1_ n2_ n3_ n4_ n5_ n6_; clear hb hbox hg; have hnb26 := NB278_276.out; have hnc26 := NB276_278.out; have hcz27_0 : w25.cell? ⟨gb278, 0, none⟩ = some (.int .u32 0) := (zai BK278.out 0).trans rfl; have hcz27_1 : w25.cell? ⟨gb278, 1, none⟩ = some (.int .u32 0) := (zai BK278.out 1).trans rfl; have hcz27_2 : w25.cell? ⟨gb278, 2, none⟩ = some (.int .i64 0) := (zai BK278.out 2).trans rfl; have hcz27_3 : w25.cell? ⟨gb278, 3, none⟩ = some (.slice none 0 0) := (zai BK278.out 3).trans rfl; have hfz27_0 := zah BK278.out 0; have hfz27_1 := zah BK278.out 1; have hfz27_2 := zah BK278.out 2; have hfz27_3 := zah BK278.out 3)))
          go_ret
          exact ⟨by first | rfl | (simp [*]; done) | (simp [*, zaz, zay] <;> rfl), by repeat (first | (with_reducible first | exact HB.out | apply zab | apply zaa | apply zac | refine zaf ?_ GE276.out | refine zaf ?_ GE278.out) | exact HB.out)⟩
        rw [if_neg c23] at H; have c23b0 : decide (4294967296 < (wrap64 ((wrap64 ((zal l0_1 x5_1).f0)) + (wrap64 ((zal l0_1 x5_1).f1))))) = false := decide_eq_false c23; clear c23
        by_cases c28 : ((zal l0_1 x5_1).f2) < 0
        · rw [if_pos c28] at H
          have c28b0 : decide (((zal l0_1 x5_1).f2) < 0) = true := decide_eq_true c28; clear c28; obtain rfl := Option.some.inj H; have hcz29_0 : wr.cell? ⟨gb276, 0, none⟩ = some (.int .u32 a0_0) := (zai BK276.out 0).trans rfl; have hcz29_1 : wr.cell? ⟨gb276, 1, none⟩ = some (.slice A0_1 l0_1.length c0_1) := (zai BK276.out 1).trans rfl; have hfz29_0 := zah BK276.out 0; have hfz29_1 := zah BK276.out 1; have p277 : 0 ≤ (x5_1 : Int) := of_decide_eq_true (by assumption); have q277 : x5_1 < (l0_1.length : Int) := of_decide_eq_true (by assumption); obtain ⟨ad277, A277_3, c277_3, e277, hx277_0, hx277_1, hx277_2, hx277_3, hl277_3, hi277_3⟩ := zc6 HR0_1.out x5_1 p277 q277; cases e277
          replace hx277_0 := (HB.out.cell (World.block_lt_of_cell? w _ hx277_0)).trans hx277_0
          replace hx277_1 := (HB.out.cell (World.block_lt_of_cell? w _ hx277_1)).trans hx277_1
          replace hx277_2 := (HB.out.cell (World.block_lt_of_cell? w _ hx277_2)).trans hx277_2
          replace hx277_3 := (HB.out.cell (World.block_lt_of_cell? w _ hx277_3)).trans hx277_3
          have HR277_3 := Aside0.mk hi277_3; have HC277_3 := Aside0.mk hl277_3; clear hi277_3 hl277_3
          replace p277 := eq_true p277
          replace q277 := eq_true q277
          go_wp2_with (first | ((with_reducible refine zax (N := 6) rfl ?_); (try (refine za6 (by rfl) ?_; dsimp only)); refine zau ?hg (N := 6) ?hd (cs := #[.int .u32 0, .int .u32 0, .int .i64 0, .slice none 0 0]) (t := 65) ?hr ?_; (case hd => rfl); (case hg => rfl); (case hr => first | (go_simp; done) | (go_simp; rfl)); intro gb278 hg w30 hbox hb; have n0_ := Aside0.mk (zaq (g := gb276) (o := .cells #[.int .u32 a0_0, .slice (some ad277) l0_1.length c0_1] 40 (0, 0)) (by (with_reducible repeat (first | refine zae ?_ _ | refine zaj ?_ | refine zad ?_ _)); exact BK276.out) hb); have n1_ := Aside0.mk (zam (by with_reducible repeat (first | exact HB.out | apply zab | apply zaa | apply zac | refine zaf ?_ GE276.out)) hb); have n2_ := Aside0.mk (hbox); have n3_ := Aside0.mk ((by rw [hg]; exact (zak (by with_reducible repeat (first | exact HB.out | apply zab | apply zaa | apply zac | refine zaf ?_ GE276.out))) : w.heap.size ≤ gb278)); have n4_ := Aside0.mk ((by rw [hg]; exact (zak (by with_reducible repeat (first | exact HB.out | apply zab | apply zaa | apply zac | refine zaf ?_ GE276.out))) : w.heap.size ≤ gb278)); have n5_ := Aside0.mk ((by rw [hg]; exact Nat.ne_of_lt (za3 (g := gb276) (o := .cells #[.int .u32 a0_0, .slice (some ad277) l0_1.length c0_1] 40 (0, 0)) (by (with_reducible repeat (first | refine zae ?_ _ | refine zaj ?_ | refine zad ?_ _)); exact BK276.out)) : gb276 ≠ gb278)); have n6_ := Aside0.mk ((by rw [hg]; exact Nat.ne_of_gt (za3 (g := gb276) (o := .cells #[.int .u32 a0_0, .slice (some ad277) l0_1.length c0_1] 40 (0, 0)) (by (with_reducible repeat (first | refine zae ?_ _ | refine zaj ?_ | refine zad ?_ _)); exact BK276.out)) : gb278 ≠ gb276)); clear BK276; clear HB; have BK276 := n0_; have HB := n1_; have BK278 := n2_; have GW278 := n3_; have GE278 := n4_; have NB276_278 := n5_; have NB278_276 := n6_; clear n0_ n1_ n2_ n3_ n4_ n5_ n6_; clear hb hbox hg; have hnb31 := NB278_276.out; have hnc31 := NB276_278.out; have hcz32_0 : w30.cell? ⟨gb278, 0, none⟩ = some (.int .u32 0) := (zai BK278.out 0).trans rfl; have hcz32_1 : w30.cell? ⟨gb278, 1, none⟩ = some (.int .u32 0) := (zai BK278.out 1).trans rfl; have hcz32_2 : w30.cell? ⟨gb278, 2, none⟩ = some (.int .i64 0) := (zai BK278.out 2).trans rfl; have hcz32_3 : w30.cell? ⟨gb278, 3, none⟩ = some (.slice none 0 0) := (zai BK278.out 3).trans rfl; have hfz32_0 := zah BK278.out 0; have hfz32_1 := zah BK278.out 1; have hfz32_2 := zah BK278.out 2; have hfz32_3 := zah BK278.out 3))
          repeat (go_quiet (first | ((with_reducible refine zax (N := 6) rfl ?_); (try (refine za6 (by rfl) ?_; dsimp only)); refine zau ?hg (N := 6) ?hd (cs := #[.int .u32 0, .int .u32 0, .int .i64 0, .slice none 0 0]) (t := 65) ?hr ?_; (case hd => rfl); (case hg => rfl); (case hr => first | (go_simp; done) | (go_simp; rfl)); intro gb278 hg w30 hbox hb; have n0_ := Aside0.mk (zaq (g := gb276) (o := .cells #[.int .u32 a0_0, .slice (some ad277) l0_1.length c0_1] 40 (0, 0)) (by (with_reducible repeat (first | refine zae ?_ _ | refine zaj ?_ | refine zad ?_ _)); exact BK276.out) hb); have n1_ := Aside0.mk (zam (by with_reducible repeat (first | exact HB.out | apply zab | apply zaa | apply zac | refine zaf ?_ GE276.out)) hb); have n2_ := Aside0.mk (hbox); have n3_ := Aside0.mk ((by rw [hg]; exact (zak (by with_reducible repeat (first | exact HB.out | apply zab | apply zaa | apply zac | refine zaf ?_ GE276.out))) : w.heap.size ≤ gb278)); have n4_ := Aside0.mk ((by rw [hg]; exact (zak (by with_reducible repeat (first | exact HB.out | apply zab | apply zaa | apply zac | refine zaf ?_ GE276.out))) : w.heap.size ≤ gb278)); have n5_ := Aside0.mk ((by rw [hg]; exact Nat.ne_of_lt (za3 (g := gb276) (o := .cells #[.int .u32 a0_0, .slice (some ad277) l0_1.length c0_1] 40 (0, 0)) (by (with_reducible repeat (first | refine zae ?_ _ | refine zaj ?_ | refine zad ?_ _)); exact BK276.out)) : gb276 ≠ gb278)); have n6_ := Aside0.mk ((by rw [hg]; exact Nat.ne_of_gt (za3 (g := gb276) (o := .cells #[.int .u32 a0_0, .slice (some ad277) l0_1.length c0_1] 40 (0, 0)) (by (with_reducible repeat (first | refine zae ?_ _ | refine zaj ?_ | refine zad ?_ _)); exact BK276.out)) : gb278 ≠ gb276)); clear BK276; clear HB; have BK276 := n0_; have HB := n1_; have BK278 := n2_; have GW278 := n3_; have GE278 := n4_; have NB276_278 := n5_; have NB278_276 := n6_; clear n0_ n1_ n2_ n3_ n4_ n5_ n6_; clear hb hbox hg; have hnb31 := NB278_276.out; have hnc31 := NB276_278.out; have hcz32_0 : w30.cell? ⟨gb278, 0, none⟩ = some (.int .u32 0) := (zai BK278.out 0).trans rfl; have hcz32_1 : w30.cell? ⟨gb278, 1, none⟩ = some (.int .u32 0) := (zai BK278.out 1).trans rfl; have hcz32_2 : w30.cell? ⟨gb278, 2, none⟩ = some (.int .i64 0) := (zai BK278.out 2).trans rfl; have hcz32_3 : w30.cell? ⟨gb278, 3, none⟩ = some (.slice none 0 0) := (zai BK278.out 3).trans rfl; have hfz32_0 := zah BK278.out 0; have hfz32_1 := zah BK278.out 1; have hfz32_2 := zah BK278.out 2; have hfz32_3 := zah BK278.out 3)); try go_wp2_with (first | ((with_reducible refine zax (N := 6) rfl ?_); (try (refine za6 (by rfl) ?_; dsimp only)); refine zau ?hg (N := 6) ?hd (cs := #[.int .u32 0, .int .u32 0, .int .i64 0, .slice none 0 0]) (t := 65) ?hr ?_; (case hd => rfl); (case hg => rfl); (case hr => first | (go_simp; done) | (go_simp; rfl)); intro gb278 hg w30 hbox hb; have n0_ := Aside0.mk (zaq (g := gb276) (o := .cells #[.int .u32 a0_0, .slice (some ad277) l0_1.length c0_1] 40 (0, 0)) (by (with_reducible repeat (first | refine zae ?_ _ | refine zaj ?_ | refine zad ?_ _)); exact BK276.out) hb); have n1_ := Aside0.mk (zam (by with_reducible repeat (first | exact HB.out | apply zab | apply zaa | apply zac | refine zaf ?_ GE276.out)) hb); have n2_ := Aside0.mk (hbox); have n3_ := Aside0.mk ((by rw [hg]; exact (zak (by with_reducible repeat (first | exact HB.out | apply zab | apply zaa | apply zac | refine zaf ?_ GE276.out))) : w.heap.size ≤ gb278)); have n4_ := Aside0.mk ((by rw [hg]; exact (zak (by with_reducible repeat (first | exact HB.out | apply zab | apply zaa | apply zac | refine zaf ?_ GE276.out))) : w.heap.size ≤ gb278)); have n5_ := Aside0.mk ((by rw [hg]; exact Nat.ne_of_lt (za3 (g := gb276) (o := .cells #[.int .u32 a0_0, .slice (some ad277) l0_1.length c0_1] 40 (0, 0)) (by (with_reducible repeat (first | refine zae ?_ _ | refine zaj ?_ | refine zad ?_ _)); exact BK276.out)) : gb276 ≠ gb278)); have n6_ := Aside0.mk ((by rw [hg]; exact Nat.ne_of_gt (za3 (g := gb276) (o := .cells #[.int .u32 a0_0, .slice (some ad277) l0_1.length c0_1] 40 (0, 0)) (by (with_reducible repeat (first | refine zae ?_ _ | refine zaj ?_ | refine zad ?_ _)); exact BK276.out)) : gb278 ≠ gb276)); clear BK276; clear HB; have BK276 := n0_; have HB := n1_; have BK278 := n2_; have GW278 := n3_; have GE278 := n4_; have NB276_278 := n5_; have NB278_276 := n6_; clear n0_ n1_ n2_ n3_ n4_ n5_ n6_; clear hb hbox hg; have hnb31 := NB278_276.out; have hnc31 := NB276_278.out; have hcz32_0 : w30.cell? ⟨gb278, 0, none⟩ = some (.int .u32 0) := (zai BK278.out 0).trans rfl; have hcz32_1 : w30.cell? ⟨gb278, 1, none⟩ = some (.int .u32 0) := (zai BK278.out 1).trans rfl; have hcz32_2 : w30.cell? ⟨gb278, 2, none⟩ = some (.int .i64 0) := (zai BK278.out 2).trans rfl; have hcz32_3 : w30.cell? ⟨gb278, 3, none⟩ = some (.slice none 0 0) := (zai BK278.out 3).trans rfl; have hfz32_0 := zah BK278.out 0; have hfz32_1 := zah BK278.out 1; have hfz32_2 := zah BK278.out 2; have hfz32_3 := zah BK278.out 3)))
          go_ret
          exact ⟨by first | rfl | (simp [*]; done) | (simp [*, zaz, zay] <;> rfl), by repeat (first | (with_reducible first | exact HB.out | apply zab | apply zaa | apply zac | refine zaf ?_ GE276.out | refine zaf ?_ GE278.out) | exact HB.out)⟩
        rw [if_neg c28] at H; have c28b0 : decide (((zal l0_1 x5_1).f2) < 0) = false := decide_eq_false c28; clear c28
        by_cases c33 : ((zal l0_1 x5_1).f2) > 7
        · rw [if_pos c33] at H
          have c33b0 : decide (7 < ((zal l0_1 x5_1).f2)) = true := decide_eq_true c33; clear c33; obtain rfl := Option.some.inj H; have hcz34_0 : wr.cell? ⟨gb276, 0, none⟩ = some (.int .u32 a0_0) := (zai BK276.out 0).trans rfl; have hcz34_1 : wr.cell? ⟨gb276, 1, none⟩ = some (.slice A0_1 l0_1.length c0_1) := (zai BK276.out 1).trans rfl; have hfz34_0 := zah BK276.out 0; have hfz34_1 := zah BK276.out 1; have p277 : 0 ≤ (x5_1 : Int) := of_decide_eq_true (by assumption); have q277 : x5_1 < (l0_1.length : Int) := of_decide_eq_true (by assumption); obtain ⟨ad277, A277_3, c277_3, e277, hx277_0, hx277_1, hx277_2, hx277_3, hl277_3, hi277_3⟩ := zc6 HR0_1.out x5_1 p277 q277; cases e277
          replace hx277_0 := (HB.out.cell (World.block_lt_of_cell? w _ hx277_0)).trans hx277_0
          replace hx277_1 := (HB.out.cell (World.block_lt_of_cell? w _ hx277_1)).trans hx277_1
          replace hx277_2 := (HB.out.cell (World.block_lt_of_cell? w _ hx277_2)).trans hx277_2
          replace hx277_3 := (HB.out.cell (World.block_lt_of_cell? w _ hx277_3)).trans hx277_3
          have HR277_3 := Aside0.mk hi277_3; have HC277_3 := Aside0.mk hl277_3; clear hi277_3 hl277_3
          replace p277 := eq_true p277
          replace q277 := eq_true q277
          go_wp2_with (first | ((with_reducible refine zax (N := 6) rfl ?_); (try (refine za6 (by rfl) ?_; dsimp only)); refine zau ?hg (N := 6) ?hd (cs := #[.int .u32 0, .int .u32 0, .int .i64 0, .slice none 0 0]) (t := 65) ?hr ?_; (case hd => rfl); (case hg => rfl); (case hr => first | (go_simp; done) | (go_simp; rfl)); intro gb278 hg w35 hbox hb; have n0_ := Aside0.mk (zaq (g := gb276) (o := .cells #[.int .u32 a0_0, .slice (some ad277) l0_1.length c0_1] 40 (0, 0)) (by (with_reducible repeat (first | refine zae ?_ _ | refine zaj ?_ | refine zad ?_ _)); exact BK276.out) hb); have n1_ := Aside0.mk (zam (by with_reducible repeat (first | exact HB.out | apply zab | apply zaa | apply zac | refine zaf ?_ GE276.out)) hb); have n2_ := Aside0.mk (hbox); have n3_ := Aside0.mk ((by rw [hg]; exact (zak (by with_reducible repeat (first | exact HB.out | apply zab | apply zaa | apply zac | refine zaf ?_ GE276.out))) : w.heap.size ≤ gb278)); have n4_ := Aside0.mk ((by rw [hg]; exact (zak (by with_reducible repeat (first | exact HB.out | apply zab | apply zaa | apply zac | refine zaf ?_ GE276.out))) : w.heap.size ≤ gb278)); have n5_ := Aside0.mk ((by rw [hg]; exact Nat.ne_of_lt (za3 (g := gb276) (o := .cells #[.int .u32 a0_0, .slice (some ad277) l0_1.length c0_1] 40 (0, 0)) (by (with_reducible repeat (first | refine zae ?_ _ | refine zaj ?_ | refine zad ?_ _)); exact BK276.out)) : gb276 ≠ gb278)); have n6_ := Aside0.mk ((by rw [hg]; exact Nat.ne_of_gt (za3 (g := gb276) (o := .cells #[.int .u32 a0_0, .slice (some ad277) l0_1.length c0_1] 40 (0, 0)) (by (with_reducible repeat (first | refine zae ?_ _ | refine zaj ?_ | refine zad ?_ _)); exact BK276.out)) : gb278 ≠ gb276)); clear BK276; clear HB; have BK276 := n0_; have HB := n1_; have BK278 := n2_; have GW278 := n3_; have GE278 := n4_; have NB276_278 := n5_; have NB278_276 := n6_; clear n0_ n1_ n2_ n3_ n4_ n5_ n6_; clear hb hbox hg; have hnb36 := NB278_276.out; have hnc36 := NB276_278.out; have hcz37_0 : w35.cell? ⟨gb278, 0, none⟩ = some (.int .u32 0) := (zai BK278.out 0).trans rfl; have hcz37_1 : w35.cell? ⟨gb278, 1, none⟩ = some (.int .u32 0) := (zai BK278.out 1).trans rfl; have hcz37_2 : w35.cell? ⟨gb278, 2, none⟩ = some (.int .i64 0) := (zai BK278.out 2).trans rfl; have hcz37_3 : w35.cell? ⟨gb278, 3, none⟩ = some (.slice none 0 0) := (zai BK278.out 3).trans rfl; have hfz37_0 := zah BK278.out 0; have hfz37_1 := zah BK278.out 1; have hfz37_2 := zah BK278.out 2; have hfz37_3 := zah BK278.out 3))
          repeat (go_quiet (first | ((with_reducible refine zax (N := 6) rfl ?_); (try (refine za6 (by rfl) ?_; dsimp only)); refine zau ?hg (N := 6) ?hd (cs := #[.int .u32 0, .int .u32 0, .int .i64 0, .slice none 0 0]) (t := 65) ?hr ?_; (case hd => rfl); (case hg => rfl); (case hr => first | (go_simp; done) | (go_simp; rfl)); intro gb278 hg w35 hbox hb; have n0_ := Aside0.mk (zaq (g := gb276) (o := .cells #[.int .u32 a0_0, .slice (some ad277) l0_1.length c0_1] 40 (0, 0)) (by (with_reducible repeat (first | refine zae ?_ _ | refine zaj ?_ | refine zad ?_ _)); exact BK276.out) hb); have n1_ := Aside0.mk (zam (by with_reducible repeat (first | exact HB.out | apply zab | apply zaa | apply zac | refine zaf ?_ GE276.out)) hb); have n2_ := Aside0.mk (hbox); have n3_ := Aside0.mk ((by rw [hg]; exact (zak (by with_reducible repeat (first | exact HB.out | apply zab | apply zaa | apply zac | refine zaf ?_ GE276.out))) : w.heap.size ≤ gb278)); have n4_ := Aside0.mk ((by rw [hg]; exact (zak (by with_reducible repeat (first | exact HB.out | apply zab | apply zaa | apply zac | refine zaf ?_ GE276.out))) : w.heap.size ≤ gb278)); have n5_ := Aside0.mk ((by rw [hg]; exact Nat.ne_of_lt (za3 (g := gb276) (o := .cells #[.int .u32 a0_0, .slice (some ad277) l0_1.length c0_1] 40 (0, 0)) (by (with_reducible repeat (first | refine zae ?_ _ | refine zaj ?_ | refine zad ?_ _)); exact BK276.out)) : gb276 ≠ gb278)); have n6_ := Aside0.mk ((by rw [hg]; exact Nat.ne_of_gt (za3 (g := gb276) (o := .cells #[.int .u32 a0_0, .slice (some ad277) l0_1.length c0_1] 40 (0, 0)) (by (with_reducible repeat (first | refine zae ?_ _ | refine zaj ?_ | refine zad ?_ _)); exact BK276.out)) : gb278 ≠ gb276)); clear BK276; clear HB; have BK276 := n0_; have HB := n1_; have BK278 := n2_; have GW278 := n3_; have GE278 := n4_; have NB276_278 := n5_; have NB278_276 := n6_; clear n0_ n1_ n2_ n3_ n4_ n5_ n6_; clear hb hbox hg; have hnb36 := NB278_276.out; have hnc36 := NB276_278.out; have hcz37_0 : w35.cell? ⟨gb278, 0, none⟩ = some (.int .u32 0) := (zai BK278.out 0).trans rfl; have hcz37_1 : w35.cell? ⟨gb278, 1, none⟩ = some (.int .u32 0) := (zai BK278.out 1).trans rfl; have hcz37_2 : w35.cell? ⟨gb278, 2, none⟩ = some (.int .i64 0) := (zai BK278.out 2).trans rfl; have hcz37_3 : w35.cell? ⟨gb278, 3, none⟩ = some (.slice none 0 0) := (zai BK278.out 3).trans rfl; have hfz37_0 := zah BK278.out 0; have hfz37_1 := zah BK278.out 1; have hfz37_2 := zah BK278.out 2; have hfz37_3 := zah BK278.out 3)); try go_wp2_with (first | ((with_reducible refine zax (N := 6) rfl ?_); (try (refine za6 (by rfl) ?_; dsimp only)); refine zau ?hg (N := 6) ?hd (cs := #[.int .u32 0, .int .u32 0, .int .i64 0, .slice none 0 0]) (t := 65) ?hr ?_; (case hd => rfl); (case hg => rfl); (case hr => first | (go_simp; done) | (go_simp; rfl)); intro gb278 hg w35 hbox hb; have n0_ := Aside0.mk (zaq (g := gb276) (o := .cells #[.int .u32 a0_0, .slice (some ad277) l0_1.length c0_1] 40 (0, 0)) (by (with_reducible repeat (first | refine zae ?_ _ | refine zaj ?_ | refine zad ?_ _)); exact BK276.out) hb); have n1_ := Aside0.mk (zam (by with_reducible repeat (first | exact HB.out | apply zab | apply zaa | apply zac | refine zaf ?_ GE276.out)) hb); have n2_ := Aside0.mk (hbox); have n3_ := Aside0.mk ((by rw [hg]; exact (zak (by with_reducible repeat (first | exact HB.out | apply zab | apply zaa | apply zac | refine zaf ?_ GE276.out))) : w.heap.size ≤ gb278)); have n4_ := Aside0.mk ((by rw [hg]; exact (zak (by with_reducible repeat (first | exact HB.out | apply zab | apply zaa | apply zac | refine zaf ?_ GE276.out))) : w.heap.size ≤ gb278)); have n5_ := Aside0.mk ((by rw [hg]; exact Nat.ne_of_lt (za3 (g := gb276) (o := .cells #[.int .u32 a0_0, .slice (some ad277) l0_1.length c0_1] 40 (0, 0)) (by (with_reducible repeat (first | refine zae ?_ _ | refine zaj ?_ | refine zad ?_ _)); exact BK276.out)) : gb276 ≠ gb278)); have n6_ := Aside0.mk ((by rw [hg]; exact Nat.ne_of_gt (za3 (g := gb276) (o := .cells #[.int .u32 a0_0, .slice (some ad277) l0_1.length c0_1] 40 (0, 0)) (by (with_reducible repeat (first | refine zae ?_ _ | refine zaj ?_ | refine zad ?_ _)); exact BK276.out)) : gb278 ≠ gb276)); clear BK276; clear HB; have BK276 := n0_; have HB := n1_; have BK278 := n2_; have GW278 := n3_; have GE278 := n4_; have NB276_278 := n5_; have NB278_276 := n6_; clear n0_ n1_ n2_ n3_ n4_ n5_ n6_; clear hb hbox hg; have hnb36 := NB278_276.out; have hnc36 := NB276_278.out; have hcz37_0 : w35.cell? ⟨gb278, 0, none⟩ = some (.int .u32 0) := (zai BK278.out 0).trans rfl; have hcz37_1 : w35.cell? ⟨gb278, 1, none⟩ = some (.int .u32 0) := (zai BK278.out 1).trans rfl; have hcz37_2 : w35.cell? ⟨gb278, 2, none⟩ = some (.int .i64 0) := (zai BK278.out 2).trans rfl; have hcz37_3 : w35.cell? ⟨gb278, 3, none⟩ = some (.slice none 0 0) := (zai BK278.out 3).trans rfl; have hfz37_0 := zah BK278.out 0; have hfz37_1 := zah BK278.out 1; have hfz37_2 := zah BK278.out 2; have hfz37_3 := zah BK278.out 3)))
          go_ret
          exact ⟨by first | rfl | (simp [*]; done) | (simp [*, zaz, zay] <;> rfl), by repeat (first | (with_reducible first | exact HB.out | apply zab | apply zaa | apply zac | refine zaf ?_ GE276.out | refine zaf ?_ GE278.out) | exact HB.out)⟩
        rw [if_neg c33] at H; have c33b0 : decide (7 < ((zal l0_1 x5_1).f2)) = false := decide_eq_false c33; clear c33
        have H' := Aside0.mk H
        clear H; have hcz38_0 : wr.cell? ⟨gb276, 0, none⟩ = some (.int .u32 a0_0) := (zai BK276.out 0).trans rfl; have hcz38_1 : wr.cell? ⟨gb276, 1, none⟩ = some (.slice A0_1 l0_1.length c0_1) := (zai BK276.out 1).trans rfl; have hfz38_0 := zah BK276.out 0; have hfz38_1 := zah BK276.out 1; have p277 : 0 ≤ (x5_1 : Int) := of_decide_eq_true (by assumption); have q277 : x5_1 < (l0_1.length : Int) := of_decide_eq_true (by assumption); obtain ⟨ad277, A277_3, c277_3, e277, hx277_0, hx277_1, hx277_2, hx277_3, hl277_3, hi277_3⟩ := zc6 HR0_1.out x5_1 p277 q277; cases e277
        replace hx277_0 := (HB.out.cell (World.block_lt_of_cell? w _ hx277_0)).trans hx277_0
        replace hx277_1 := (HB.out.cell (World.block_lt_of_cell? w _ hx277_1)).trans hx277_1
        replace hx277_2 := (HB.out.cell (World.block_lt_of_cell? w _ hx277_2)).trans hx277_2
        replace hx277_3 := (HB.out.cell (World.block_lt_of_cell? w _ hx277_3)).trans hx277_3
        have HR277_3 := Aside0.mk hi277_3; have HC277_3 := Aside0.mk hl277_3; clear hi277_3 hl277_3
        replace p277 := eq_true p277
        replace q277 := eq_true q277
        go_wp2_with (first | ((with_reducible refine zax (N := 6) rfl ?_); (try (refine za6 (by rfl) ?_; dsimp only)); refine zau ?hg (N := 6) ?hd (cs := #[.int .u32 0, .int .u32 0, .int .i64 0, .slice none 0 0]) (t := 65) ?hr ?_; (case hd => rfl); (case hg => rfl); (case hr => first | (go_simp; done) | (go_simp; rfl)); intro gb278 hg w39 hbox hb; have n0_ := Aside0.mk (zaq (g := gb276) (o := .cells #[.int .u32 a0_0, .slice (some ad277) l0_1.length c0_1] 40 (0, 0)) (by (with_reducible repeat (first | refine zae ?_ _ | refine zaj ?_ | refine zad ?_ _)); exact BK276.out) hb); have n1_ := Aside0.mk (zam (by with_reducible repeat (first | exact HB.out | apply zab | apply zaa | apply zac | refine zaf ?_ GE276.out)) hb); have n2_ := Aside0.mk (hbox); have n3_ := Aside0.mk ((by rw [hg]; exact (zak (by with_reducible repeat (first | exact HB.out | apply zab | apply zaa | apply zac | refine zaf ?_ GE276.out))) : w.heap.size ≤ gb278)); have n4_ := Aside0.mk ((by rw [hg]; exact (zak (by with_reducible repeat (first | exact HB.out | apply zab | apply zaa | apply zac | refine zaf ?_ GE276.out))) : w.heap.size ≤ gb278)); have n5_ := Aside0.mk ((by rw [hg]; exact Nat.ne_of_lt (za3 (g := gb276) (o := .cells #[.int .u32 a0_0, .slice (some ad277) l0_1.length c0_1] 40 (0, 0)) (by (with_reducible repeat (first | refine zae ?_ _ | refine zaj ?_ | refine zad ?_ _)); exact BK276.out)) : gb276 ≠ gb278)); have n6_ := Aside0.mk ((by rw [hg]; exact Nat.ne_of_gt (za3 (g := gb276) (o := .cells #[.int .u32 a0_0, .slice (some ad277) l0_1.length c0_1] 40 (0, 0)) (by (with_reducible repeat (first | refine zae ?_ _ | refine zaj ?_ | refine zad ?_ _)); exact BK276.out)) : gb278 ≠ gb276)); clear BK276; clear HB; have BK276 := n0_; have HB := n1_; have BK278 := n2_; have GW278 := n3_; have GE278 := n4_; have NB276_278 := n5_; have NB278_276 := n6_; clear n0_ n1_ n2_ n3_ n4_ n5_ n6_; clear hb hbox hg; have hnb40 := NB278_276.out; have hnc40 := NB276_278.out; have hcz41_0 : w39.cell? ⟨gb278, 0, none⟩ = some (.int .u32 0) := (zai BK278.out 0).trans rfl; have hcz41_1 : w39.cell? ⟨gb278, 1, none⟩ = some (.int .u32 0) := (zai BK278.out 1).trans rfl; have hcz41_2 : w39.cell? ⟨gb278, 2, none⟩ = some (.int .i64 0) := (zai BK278.out 2).trans rfl; have hcz41_3 : w39.cell? ⟨gb278, 3, none⟩ = some (.slice none 0 0) := (zai BK278.out 3).trans rfl; have hfz41_0 := zah BK278.out 0; have hfz41_1 := zah BK278.out 1; have hfz41_2 := zah BK278.out 2; have hfz41_3 := zah BK278.out 3))
        repeat (go_quiet (first | ((with_reducible refine zax (N := 6) rfl ?_); (try (refine za6 (by rfl) ?_; dsimp only)); refine zau ?hg (N := 6) ?hd (cs := #[.int .u32 0, .int .u32 0, .int .i64 0, .slice none 0 0]) (t := 65) ?hr ?_; (case hd => rfl); (case hg => rfl); (case hr => first | (go_simp; done) | (go_simp; rfl)); intro gb278 hg w39 hbox hb; have n0_ := Aside0.mk (zaq (g := gb276) (o := .cells #[.int .u32 a0_0, .slice (some ad277) l0_1.length c0_1] 40 (0, 0)) (by (with_reducible repeat (first | refine zae ?_ _ | refine zaj ?_ | refine zad ?_ _)); exact BK276.out) hb); have n1_ := Aside0.mk (zam (by with_reducible repeat (first | exact HB.out | apply zab | apply zaa | apply zac | refine zaf ?_ GE276.out)) hb); have n2_ := Aside0.mk (hbox); have n3_ := Aside0.mk ((by rw [hg]; exact (zak (by with_reducible repeat (first | exact HB.out | apply zab | apply zaa | apply zac | refine zaf ?_ GE276.out))) : w.heap.size ≤ gb278)); have n4_ := Aside0.mk ((by rw [hg]; exact (zak (by with_reducible repeat (first | exact HB.out | apply zab | apply zaa | apply zac | refine zaf ?_ GE276.out))) : w.heap.size ≤ gb278)); have n5_ := Aside0.mk ((by rw [hg]; exact Nat.ne_of_lt (za3 (g := gb276) (o := .cells #[.int .u32 a0_0, .slice (some ad277) l0_1.length c0_1] 40 (0, 0)) (by (with_reducible repeat (first | refine zae ?_ _ | refine zaj ?_ | refine zad ?_ _)); exact BK276.out)) : gb276 ≠ gb278)); have n6_ := Aside0.mk ((by rw [hg]; exact Nat.ne_of_gt (za3 (g := gb276) (o := .cells #[.int .u32 a0_0, .slice (some ad277) l0_1.length c0_1] 40 (0, 0)) (by (with_reducible repeat (first | refine zae ?_ _ | refine zaj ?_ | refine zad ?_ _)); exact BK276.out)) : gb278 ≠ gb276)); clear BK276; clear HB; have BK276 := n0_; have HB := n1_; have BK278 := n2_; have GW278 := n3_; have GE278 := n4_; have NB276_278 := n5_; have NB278_276 := n6_; clear n0_ n1_ n2_ n3_ n4_ n5_ n6_; clear hb hbox hg; have hnb40 := NB278_276.out; have hnc40 := NB276_278.out; have hcz41_0 : w39.cell? ⟨gb278, 0, none⟩ = some (.int .u32 0) := (zai BK278.out 0).trans rfl; have hcz41_1 : w39.cell? ⟨gb278, 1, none⟩ = some (.int .u32 0) := (zai BK278.out 1).trans rfl; have hcz41_2 : w39.cell? ⟨gb278, 2, none⟩ = some (.int .i64 0) := (zai BK278.out 2).trans rfl; have hcz41_3 : w39.cell? ⟨gb278, 3, none⟩ = some (.slice none 0 0) := (zai BK278.out 3).trans rfl; have hfz41_0 := zah BK278.out 0; have hfz41_1 := zah BK278.out 1; have hfz41_2 := zah BK278.out 2; have hfz41_3 := zah BK278.out 3)); try go_wp2_with (first | ((with_reducible refine zax (N := 6) rfl ?_); (try (refine za6 (by rfl) ?_; dsimp only)); refine zau ?hg (N := 6) ?hd (cs := #[.int .u32 0, .int .u32 0, .int .i64 0, .slice none 0 0]) (t := 65) ?hr ?_; (case hd => rfl); (case hg => rfl); (case hr => first | (go_simp; done) | (go_simp; rfl)); intro gb278 hg w39 hbox hb; have n0_ := Aside0.mk (zaq (g := gb276) (o := .cells #[.int .u32 a0_0, .slice (some ad277) l0_1.length c0_1] 40 (0, 0)) (by (with_reducible repeat (first | refine zae ?_ _ | refine zaj ?_ | refine zad ?_ _)); exact BK276.out) hb); have n1_ := Aside0.mk (zam (by with_reducible repeat (first | exact HB.out | apply zab | apply zaa | apply zac | refine zaf ?_ GE276.out)) hb); have n2_ := Aside0.mk (hbox); have n3_ := Aside0.mk ((by rw [hg]; exact (zak (by with_reducible repeat (first | exact HB.out | apply zab | apply zaa | apply zac | refine zaf ?_ GE276.out))) : w.heap.size ≤ gb278)); have n4_ := Aside0.mk ((by rw [hg]; exact (zak (by with_reducible repeat (first | exact HB.out | apply zab | apply zaa | apply zac | refine zaf ?_ GE276.out))) : w.heap.size ≤ gb278)); have n5_ := Aside0.mk ((by rw [hg]; exact Nat.ne_of_lt (za3 (g := gb276) (o := .cells #[.int .u32 a0_0, .slice (some ad277) l0_1.length c0_1] 40 (0, 0)) (by (with_reducible repeat (first | refine zae ?_ _ | refine zaj ?_ | refine zad ?_ _)); exact BK276.out)) : gb276 ≠ gb278)); have n6_ := Aside0.mk ((by rw [hg]; exact Nat.ne_of_gt (za3 (g := gb276) (o := .cells #[.int .u32 a0_0, .slice (some ad277) l0_1.length c0_1] 40 (0, 0)) (by (with_reducible repeat (first | refine zae ?_ _ | refine zaj ?_ | refine zad ?_ _)); exact BK276.out)) : gb278 ≠ gb276)); clear BK276; clear HB; have BK276 := n0_; have HB := n1_; have BK278 := n2_; have GW278 := n3_; have GE278 := n4_; have NB276_278 := n5_; have NB278_276 := n6_; clear n0_ n1_ n2_ n3_ n4_ n5_ n6_; clear hb hbox hg; have hnb40 := NB278_276.out; have hnc40 := NB276_278.out; have hcz41_0 : w39.cell? ⟨gb278, 0, none⟩ = some (.int .u32 0) := (zai BK278.out 0).trans rfl; have hcz41_1 : w39.cell? ⟨gb278, 1, none⟩ = some (.int .u32 0) := (zai BK278.out 1).trans rfl; have hcz41_2 : w39.cell? ⟨gb278, 2, none⟩ = some (.int .i64 0) := (zai BK278.out 2).trans rfl; have hcz41_3 : w39.cell? ⟨gb278, 3, none⟩ = some (.slice none 0 0) := (zai BK278.out 3).trans rfl; have hfz41_0 := zah BK278.out 0; have hfz41_1 := zah BK278.out 1; have hfz41_2 := zah BK278.out 2; have hfz41_3 := zah BK278.out 3)))
        go_roundg k1
        case measure => have := HK1.out; omega
        case rel => exact ⟨(wrap64 (x3_1 + (((zal l0_1 x5_1).f3).length : Int))), (wrap64 (x4_1 + (wrap64 ((zal l0_1 x5_1).f1)))), (wrap64 (x5_1 + 1)), (by first | rfl | (simp; done) | (simp [*]; done)), (by first | rfl | (simp; done) | (simp [*]; done)), (by first | rfl | (simp; done) | (simp [*]; done)), H', ⟨by have := HK1.out; omega⟩, ⟨by (with_reducible repeat (first | refine zae ?_ _ | refine zaj ?_ | refine zad ?_ _)); refine za4 ?_ NB276_278.out _; (with_reducible repeat (first | refine zae ?_ _ | refine zaj ?_ | refine zad ?_ _)); refine za4 ?_ NB276_278.out _; (with_reducible repeat (first | refine zae ?_ _ | refine zaj ?_ | refine zad ?_ _)); refine za4 ?_ NB276_278.out _; (with_reducible repeat (first | refine zae ?_ _ | refine zaj ?_ | refine zad ?_ _)); refine za4 ?_ NB276_278.out _; (with_reducible repeat (first | refine zae ?_ _ | refine zaj ?_ | refine zad ?_ _)); exact BK276.out⟩, ⟨by repeat (first | (with_reducible first | exact HB.out | apply zab | apply zaa | apply zac | refine zaf ?_ GE276.out | refine zaf ?_ GE278.out) | exact HB.out)⟩⟩
      rw [if_neg c10] at H; have c10b0 : decide (x5_1 < (l0_1.length : Int)) = false := decide_eq_false c10; clear c10; have HC46 := Aside0.mk H; clear H; have hcz47_0 : wr.cell? ⟨gb276, 0, none⟩ = some (.int .u32 a0_0) := (zai BK276.out 0).trans rfl; have hcz47_1 : wr.cell? ⟨gb276, 1, none⟩ = some (.slice A0_1 l0_1.length c0_1) := (zai BK276.out 1).trans rfl; have hfz47_0 := zah BK276.out 0; have hfz47_1 := zah BK276.out 1
      go_upto_region 14 with (fail)
      repeat (go_quiet (fail); go_upto_region 14 with (fail))
      go_cut [85] (fun v85 wc => ∃ (kq : Nat) (x85_45 : Bool), v85 = .bool x85_45 ∧ Aside0 (tinctureref7_GoodImage.j1 kq x85_45 a0_0 l0_1 = some r) ∧ Aside0 (kq ≤ k1) ∧ Aside0 (wc.heap[gb276]? = some (.cells #[.int .u32 a0_0, (.slice A0_1 l0_1.length c0_1)] 40 (0, 0))) ∧ Aside0 (Below w.heap.size w wc))
      case first =>
        have H := HC46.out; clear HC46
        by_cases c48 : x3_1 > 65536
        rotate_left
        · rw [if_neg c48] at H
          have c48b0 : decide (65536 < x3_1) = false := decide_eq_false c48; clear c48
          (first | rw [c48b0] | (simp only [i64_w, i32_w]; rw [c48b0]) | skip)
          have H' := Aside0.mk H
          clear H; go_wp2
          repeat (go_quiet (fail); try go_wp2)
          go_meet
          case rel => exact ⟨_, (decide (x4_1 > 65536)), (by first | rfl | (simp; done) | (simp [*]; done)), H', ⟨by have := HK1.out; first | omega | exact Nat.le_refl _⟩, ⟨by (with_reducible repeat (first | refine zae ?_ _ | refine zaj ?_ | refine zad ?_ _)); exact BK276.out⟩, ⟨by repeat (first | (with_reducible first | exact HB.out | apply zab | apply zaa | apply zac | refine zaf ?_ GE276.out) | exact HB.out)⟩⟩
        rw [if_pos c48] at H; have c48b0 : decide (65536 < x3_1) = true := decide_eq_true c48; clear c48
        (first | rw [c48b0] | (simp only [i64_w, i32_w]; rw [c48b0]) | skip)
        have H' := Aside0.mk H
        clear H; go_wp2
        repeat (go_quiet (fail); try go_wp2)
        go_meet
        case rel => exact ⟨_, (true), (by first | rfl | (simp; done) | (simp [*]; done)), H', ⟨by have := HK1.out; first | omega | exact Nat.le_refl _⟩, ⟨by (with_reducible repeat (first | refine zae ?_ _ | refine zaj ?_ | refine zad ?_ _)); exact BK276.out⟩, ⟨by repeat (first | (with_reducible first | exact HB.out | apply zab | apply zaa | apply zac | refine zaf ?_ GE276.out) | exact HB.out)⟩⟩
      case rest =>
        clear HC46
        try clear c1
        try clear c2
        try clear c2b0
        try clear c2b1
        try clear p2
        try clear q2
        try clear hx2
        try clear c3
        try clear c4
        try clear c5
        try clear c5b0
        try clear c5b1
        try clear c5b2
        try clear p6
        try clear c10
        try clear c10b0
        try clear c11
        try clear c11b0
        try clear c12
        try clear c12b0
        try clear c12b1
        try clear c13
        try clear c13b0
        try clear c13b1
        try clear c16
        try clear c18
        try clear c18b0
        try clear c21
        try clear c23
        try clear c23b0
        try clear c26
        try clear c27
        try clear p27
        try clear q27
        try clear hx27
        try clear c28
        try clear c28b0
        try clear c31
        try clear c33
        try clear c33b0
        try clear c36
        try clear c40
        try clear c44
        try clear c48
        try clear c48b0
        try clear hcz14_0
        try clear hcz14_1
        try clear hcz17_0
        try clear hcz17_1
        try clear hcz17_2
        try clear hcz17_3
        try clear hcz19_0
        try clear hcz19_1
        try clear hcz22_0
        try clear hcz22_1
        try clear hcz22_2
        try clear hcz22_3
        try clear hcz24_0
        try clear hcz24_1
        try clear hcz27_0
        try clear hcz27_1
        try clear hcz27_2
        try clear hcz27_3
        try clear hcz29_0
        try clear hcz29_1
        try clear hcz32_0
        try clear hcz32_1
        try clear hcz32_2
        try clear hcz32_3
        try clear hcz34_0
        try clear hcz34_1
        try clear hcz37_0
        try clear hcz37_1
        try clear hcz37_2
        try clear hcz37_3
        try clear hcz38_0
        try clear hcz38_1
        try clear hcz41_0
        try clear hcz41_1
        try clear hcz41_2
        try clear hcz41_3
        try clear hcz42_0
        try clear hcz42_1
        try clear hcz45_0
        try clear hcz45_1
        try clear hcz45_2
        try clear hcz45_3
        try clear hcz47_0
        try clear hcz47_1
        try clear hcz4_0
        try clear hcz4_1
        try clear hcz7_0
        try clear hcz7_1
        try clear hcz9_0
        try clear hcz9_1
        try clear hfz14_0
        try clear hfz14_1
        try clear hfz17_0
        try clear hfz17_1
        try clear hfz17_2
        try clear hfz17_3
        try clear hfz19_0
        try clear hfz19_1
        try clear hfz22_0
        try clear hfz22_1
        try clear hfz22_2
        try clear hfz22_3
        try clear hfz24_0
        try clear hfz24_1
        try clear hfz27_0
        try clear hfz27_1
        try clear hfz27_2
        try clear hfz27_3
        try clear hfz29_0
        try clear hfz29_1
        try clear hfz32_0
        try clear hfz32_1
        try clear hfz32_2
        try clear hfz32_3
        try clear hfz34_0
        try clear hfz34_1
        try clear hfz37_0
        try clear hfz37_1
        try clear hfz37_2
        try clear hfz37_3
        try clear hfz38_0
        try clear hfz38_1
        try clear hfz41_0
        try clear hfz41_1
        try clear hfz41_2
        try clear hfz41_3
        try clear hfz42_0
        try clear hfz42_1
        try clear hfz45_0
        try clear hfz45_1
        try clear hfz45_2
        try clear hfz45_3
        try clear hfz47_0
        try clear hfz47_1
        try clear hfz4_0
        try clear hfz4_1
        try clear hfz7_0
        try clear hfz7_1
        try clear hfz9_0
        try clear hfz9_1
        try clear hx277_0
        try clear hx277_1
        try clear hx277_2
        try clear hx277_3
        try clear p2
        try clear p277
        try clear q277
        obtain ⟨kq, x85_45, rfl, HA, HJ45, BK276, HB⟩ := hcut
        cases kq with
        | zero => exact absurd HA.out (by simp [tinctureref7_GoodImage.j1])
        | succ kj45 =>
          have H := HA.out; clear HA; simp only [tinctureref7_GoodImage.j1] at H
          by_cases c49 : x85_45 = true
          · subst c49
            have H1 : (some 2) = some r := by rw [if_pos rfl] at H; exact H
            clear H; have H := H1; clear H1; obtain rfl := Option.some.inj H; go_wp2
            repeat (go_quiet (fail); try go_wp2)
            go_ret
            exact ⟨by first | rfl | (simp [*]; done) | (simp [*, zaz, zay] <;> rfl), by repeat (first | (with_reducible first | exact HB.out | apply zab | apply zaa | apply zac | refine zaf ?_ GE276.out) | exact HB.out)⟩
          replace c49 := Bool.eq_false_iff.mpr c49
          subst c49
          have H1 : (tinctureref7_GoodImage.l1 kj45 false 0 a0_0 l0_1) = some r := by rw [if_neg (show ¬ (false = true) by decide)] at H; exact H
          clear H; have H := H1; clear H1
          have H' := Aside0.mk H
          clear H; go_wp2
          repeat (go_quiet (fail); try go_wp2)
          go_loopg [7, 8] kj45 (fun kq v7 v8 w' => ∃ (x7_3 : Bool) (x8_3 : Int), v7 = .bool x7_3 ∧ v8 = .int .i64 x8_3 ∧ Aside0 (tinctureref7_GoodImage.l1 kq x7_3 x8_3 a0_0 l0_1 = some r) ∧ Aside0 (kq ≤ kj45) ∧ Aside0 (w'.heap[gb276]? = some (.cells #[.int .u32 a0_0, (.slice A0_1 l0_1.length c0_1)] 40 (0, 0))) ∧ Aside0 (Below w.heap.size w w'))
          case atStart => exact ⟨(false), (0), (by first | rfl | (simp; done) | (simp [*]; done)), (by first | rfl | (simp; done) | (simp [*]; done)), H', ⟨Nat.le_refl _⟩, ⟨by (with_reducible repeat (first | refine zae ?_ _ | refine zaj ?_ | refine zad ?_ _)); exact BK276.out⟩, ⟨by repeat (first | (with_reducible first | exact HB.out | apply zab | apply zaa | apply zac | refine zaf ?_ GE276.out) | exact HB.out)⟩⟩
          case round =>
            clear H'
            try clear c1
            try clear c2
            try clear c2b0
            try clear c2b1
            try clear p2
            try clear q2
            try clear hx2
            try clear c3
            try clear c4
            try clear c5
            try clear c5b0
            try clear c5b1
            try clear c5b2
            try clear p6
            try clear c10
            try clear c10b0
            try clear c11
            try clear c11b0
            try clear c12
            try clear c12b0
            try clear c12b1
            try clear c13
            try clear c13b0
            try clear c13b1
            try clear c16
            try clear c18
            try clear c18b0
            try clear c21
            try clear c23
            try clear c23b0
            try clear c26
            try clear c27
            try clear p27
            try clear q27
            try clear hx27
            try clear c28
            try clear c28b0
            try clear c31
            try clear c33
            try clear c33b0
            try clear c36
            try clear c40
            try clear c44
            try clear c48
            try clear c48b0
            try clear c49
            try clear hcz14_0
            try clear hcz14_1
            try clear hcz17_0
            try clear hcz17_1
            try clear hcz17_2
            try clear hcz17_3
            try clear hcz19_0
            try clear hcz19_1
            try clear hcz22_0
            try clear hcz22_1
            try clear hcz22_2
            try clear hcz22_3
            try clear hcz24_0
            try clear hcz24_1
            try clear hcz27_0
            try clear hcz27_1
            try clear hcz27_2
            try clear hcz27_3
            try clear hcz29_0
            try clear hcz29_1
            try clear hcz32_0
            try clear hcz32_1
            try clear hcz32_2
            try clear hcz32_3
            try clear hcz34_0
            try clear hcz34_1
            try clear hcz37_0
            try clear hcz37_1
            try clear hcz37_2
            try clear hcz37_3
            try clear hcz38_0
            try clear hcz38_1
            try clear hcz41_0
            try clear hcz41_1
            try clear hcz41_2
            try clear hcz41_3
            try clear hcz42_0
            try clear hcz42_1
            try clear hcz45_0
            try clear hcz45_1
            try clear hcz45_2
            try clear hcz45_3
            try clear hcz47_0
            try clear hcz47_1
            try clear hcz4_0
            try clear hcz4_1
            try clear hcz7_0
            try clear hcz7_1
            try clear hcz9_0
            try clear hcz9_1
            try clear hfz14_0
            try clear hfz14_1
            try clear hfz17_0
            try clear hfz17_1
            try clear hfz17_2
            try clear hfz17_3
            try clear hfz19_0
            try clear hfz19_1
            try clear hfz22_0
            try clear hfz22_1
            try clear hfz22_2
            try clear hfz22_3
            try clear hfz24_0
            try clear hfz24_1
            try clear hfz27_0
            try clear hfz27_1
            try clear hfz27_2
            try clear hfz27_3
            try clear hfz29_0
            try clear hfz29_1
            try clear hfz32_0
            try clear hfz32_1
            try clear hfz32_2
            try clear hfz32_3
            try clear hfz34_0
            try clear hfz34_1
            try clear hfz37_0
            try clear hfz37_1
            try clear hfz37_2
            try clear hfz37_3
            try clear hfz38_0
            try clear hfz38_1
            try clear hfz41_0
            try clear hfz41_1
            try clear hfz41_2
            try clear hfz41_3
            try clear hfz42_0
            try clear hfz42_1
            try clear hfz45_0
            try clear hfz45_1
            try clear hfz45_2
            try clear hfz45_3
            try clear hfz47_0
            try clear hfz47_1
            try clear hfz4_0
            try clear hfz4_1
            try clear hfz7_0
            try clear hfz7_1
            try clear hfz9_0
            try clear hfz9_1
            try clear hx277_0
            try clear hx277_1
            try clear hx277_2
            try clear hx277_3
            try clear p2
            try clear p27
            try clear p277
            try clear p6
            try clear q2
            try clear q27
            try clear q277
            obtain ⟨x7_3, x8_3, rfl, rfl, HA, HK3, BK276, HB⟩ := hrel
            cases gk with
            | zero => exact absurd HA.out (by simp [tinctureref7_GoodImage.l1])
            | succ k3 =>
              have H := HA.out; clear HA; simp only [tinctureref7_GoodImage.l1] at H
              by_cases c50 : x8_3 < (l0_1.length : Int)
              rotate_left
              · rw [if_neg c50] at H
                have c50b0 : decide (x8_3 < (l0_1.length : Int)) = false := decide_eq_false c50; clear c50
                by_cases c95 : (Int.tmod a0_0 4) = 0
                rotate_left
                · rw [if_neg c95] at H
                  have c95b0 : ((Int.tmod a0_0 4) == 0) = false := beq_eq_false_iff_ne.mpr c95; have c95b1 : ((Int.tmod a0_0 4) != 0) = true := bne_iff_ne.mpr c95; obtain rfl := Option.some.inj H; have hcz99_0 : wr.cell? ⟨gb276, 0, none⟩ = some (.int .u32 a0_0) := (zai BK276.out 0).trans rfl; have hcz99_1 : wr.cell? ⟨gb276, 1, none⟩ = some (.slice A0_1 l0_1.length c0_1) := (zai BK276.out 1).trans rfl; have hfz99_0 := zah BK276.out 0; have hfz99_1 := zah BK276.out 1; go_wp2
                  repeat (go_quiet (fail); try go_wp2)
                  go_ret
                  exact ⟨by first | rfl | (simp [*]; done) | (simp [*, zaz, zay] <;> rfl), by repeat (first | (with_reducible first | exact HB.out | apply zab | apply zaa | apply zac | refine zaf ?_ GE276.out) | exact HB.out)⟩
                rw [if_pos c95] at H; have c95b0 : ((Int.tmod a0_0 4) == 0) = true := beq_iff_eq.mpr c95; have c95b1 : ((Int.tmod a0_0 4) != 0) = false := bne_eq_false_iff_eq.mpr c95; clear c95
                by_cases c96 : x7_3 = true
                · subst c96
                  have H1 : (some 0) = some r := by rw [if_pos rfl] at H; exact H
                  clear H; have H := H1; clear H1; obtain rfl := Option.some.inj H; have hcz97_0 : wr.cell? ⟨gb276, 0, none⟩ = some (.int .u32 a0_0) := (zai BK276.out 0).trans rfl; have hcz97_1 : wr.cell? ⟨gb276, 1, none⟩ = some (.slice A0_1 l0_1.length c0_1) := (zai BK276.out 1).trans rfl; have hfz97_0 := zah BK276.out 0; have hfz97_1 := zah BK276.out 1; go_wp2
                  repeat (go_quiet (fail); try go_wp2)
                  go_ret
                  exact ⟨by first | rfl | (simp [*]; done) | (simp [*, zaz, zay] <;> rfl), by repeat (first | (with_reducible first | exact HB.out | apply zab | apply zaa | apply zac | refine zaf ?_ GE276.out) | exact HB.out)⟩
                replace c96 := Bool.eq_false_iff.mpr c96
                subst c96
                have H1 : (some 1) = some r := by rw [if_neg (show ¬ (false = true) by decide)] at H; exact H
                clear H; have H := H1; clear H1; obtain rfl := Option.some.inj H; have hcz98_0 : wr.cell? ⟨gb276, 0, none⟩ = some (.int .u32 a0_0) := (zai BK276.out 0).trans rfl; have hcz98_1 : wr.cell? ⟨gb276, 1, none⟩ = some (.slice A0_1 l0_1.length c0_1) := (zai BK276.out 1).trans rfl; have hfz98_0 := zah BK276.out 0; have hfz98_1 := zah BK276.out 1; go_wp2
                repeat (go_quiet (fail); try go_wp2)
                go_ret
                exact ⟨by first | rfl | (simp [*]; done) | (simp [*, zaz, zay] <;> rfl), by repeat (first | (with_reducible first | exact HB.out | apply zab | apply zaa | apply zac | refine zaf ?_ GE276.out) | exact HB.out)⟩
              rw [if_pos c50] at H; have c50b0 : decide (x8_3 < (l0_1.length : Int)) = true := decide_eq_true c50; clear c50
              by_cases c51 : 0 ≤ x8_3
              rotate_left
              · rw [if_neg c51] at H
                exact absurd H (by simp)
              rw [if_pos c51] at H; have c51b0 : decide (0 ≤ x8_3) = true := decide_eq_true c51; clear c51
              have H' := Aside0.mk H
              clear H; have hcz52_0 : wr.cell? ⟨gb276, 0, none⟩ = some (.int .u32 a0_0) := (zai BK276.out 0).trans rfl; have hcz52_1 : wr.cell? ⟨gb276, 1, none⟩ = some (.slice A0_1 l0_1.length c0_1) := (zai BK276.out 1).trans rfl; have hfz52_0 := zah BK276.out 0; have hfz52_1 := zah BK276.out 1; have p279 : 0 ≤ (x8_3 : Int) := of_decide_eq_true (by assumption); have q279 : x8_3 < (l0_1.length : Int) := of_decide_eq_true (by assumption); obtain ⟨ad279, A279_3, c279_3, e279, hx279_0, hx279_1, hx279_2, hx279_3, hl279_3, hi279_3⟩ := zc6 HR0_1.out x8_3 p279 q279; cases e279
              replace hx279_0 := (HB.out.cell (World.block_lt_of_cell? w _ hx279_0)).trans hx279_0
              replace hx279_1 := (HB.out.cell (World.block_lt_of_cell? w _ hx279_1)).trans hx279_1
              replace hx279_2 := (HB.out.cell (World.block_lt_of_cell? w _ hx279_2)).trans hx279_2
              replace hx279_3 := (HB.out.cell (World.block_lt_of_cell? w _ hx279_3)).trans hx279_3
              have HR279_3 := Aside0.mk hi279_3; have HC279_3 := Aside0.mk hl279_3; clear hi279_3 hl279_3
              replace p279 := eq_true p279
              replace q279 := eq_true q279
              go_wp2_with (first | ((with_reducible refine zax (N := 9) rfl ?_); (try (refine za6 (by rfl) ?_; dsimp only)); refine zau ?hg (N := 9) ?hd (cs := #[.int .u32 0, .int .u32 0, .int .i64 0, .slice none 0 0]) (t := 65) ?hr ?_; (case hd => rfl); (case hg => rfl); (case hr => first | (go_simp; done) | (go_simp; rfl)); intro gb280 hg w53 hbox hb; have n0_ := Aside0.mk (zaq (g := gb276) (o := .cells #[.int .u32 a0_0, .slice (some ad279) l0_1.length c0_1] 40 (0, 0)) (by (with_reducible repeat (first | refine zae ?_ _ | refine zaj ?_ | refine zad ?_ _)); exact BK276.out) hb); have n1_ := Aside0.mk (zam (by with_reducible repeat (first | exact HB.out | apply zab | apply zaa | apply zac | refine zaf ?_ GE276.out)) hb); have n2_ := Aside0.mk (hbox); have n3_ := Aside0.mk ((by rw [hg]; exact (zak (by with_reducible repeat (first | exact HB.out | apply zab | apply zaa | apply zac | refine zaf ?_ GE276.out))) : w.heap.size ≤ gb280)); have n4_ := Aside0.mk ((by rw [hg]; exact (zak (by with_reducible repeat (first | exact HB.out | apply zab | apply zaa | apply zac | refine zaf ?_ GE276.out))) : w.heap.size ≤ gb280)); have n5_ := Aside0.mk ((by rw [hg]; exact Nat.ne_of_lt (za3 (g := gb276) (o := .cells #[.int .u32 a0_0, .slice (some ad279) l0_1.length c0_1] 40 (0, 0)) (by (with_reducible repeat (first | refine zae ?_ _ | refine zaj ?_ | refine zad ?_ _)); exact BK276.out)) : gb276 ≠ gb280)); have n6_ := Aside0.mk ((by rw [hg]; exact Nat.ne_of_gt (za3 (g := gb276) (o := .cells #[.int .u32 a0_0, .slice (some ad279) l0_1.length c0_1] 40 (0, 0)) (by (with_reducible repeat (first | refine zae ?_ _ | refine zaj ?_ | refine zad ?_ _)); exact BK276.out)) : gb280 ≠ gb276)); clear BK276; clear HB; have BK276 := n0_; have HB := n1_; have BK280 := n2_; have GW280 := n3_; have GE280 := n4_; have NB276_280 := n5_; have NB280_276 := n6_; clear n0_ n1_ n2_ n3_ n4_ n5_ n6_; clear hb hbox hg; have hnb54 := NB280_276.out; have hnc54 := NB276_280.out; have hcz55_0 : w53.cell? ⟨gb280, 0, none⟩ = some (.int .u32 0) := (zai BK280.out 0).trans rfl; have hcz55_1 : w53.cell? ⟨gb280, 1, none⟩ = some (.int .u32 0) := (zai BK280.out 1).trans rfl; have hcz55_2 : w53.cell? ⟨gb280, 2, none⟩ = some (.int .i64 0) := (zai BK280.out 2).trans rfl; have hcz55_3 : w53.cell? ⟨gb280, 3, none⟩ = some (.slice none 0 0) := (zai BK280.out 3).trans rfl; have hfz55_0 := zah BK280.out 0; have hfz55_1 := zah BK280.out 1; have hfz55_2 := zah BK280.out 2; have hfz55_3 := zah BK280.out 3))
              repeat (go_quiet (first | ((with_reducible refine zax (N := 9) rfl ?_); (try (refine za6 (by rfl) ?_; dsimp only)); refine zau ?hg (N := 9) ?hd (cs := #[.int .u32 0, .int .u32 0, .int .i64 0, .slice none 0 0]) (t := 65) ?hr ?_; (case hd => rfl); (case hg => rfl); (case hr => first | (go_simp; done) | (go_simp; rfl)); intro gb280 hg w53 hbox hb; have n0_ := Aside0.mk (zaq (g := gb276) (o := .cells #[.int .u32 a0_0, .slice (some ad279) l0_1.length c0_1] 40 (0, 0)) (by (with_reducible repeat (first | refine zae ?_ _ | refine zaj ?_ | refine zad ?_ _)); exact BK276.out) hb); have n1_ := Aside0.mk (zam (by with_reducible repeat (first | exact HB.out | apply zab | apply zaa | apply zac | refine zaf ?_ GE276.out)) hb); have n2_ := Aside0.mk (hbox); have n3_ := Aside0.mk ((by rw [hg]; exact (zak (by with_reducible repeat (first | exact HB.out | apply zab | apply zaa | apply zac | refine zaf ?_ GE276.out))) : w.heap.size ≤ gb280)); have n4_ := Aside0.mk ((by rw [hg]; exact (zak (by with_reducible repeat (first | exact HB.out | apply zab | apply zaa | apply zac | refine zaf ?_ GE276.out))) : w.heap.size ≤ gb280)); have n5_ := Aside0.mk ((by rw [hg]; exact Nat.ne_of_lt (za3 (g := gb276) (o := .cells #[.int .u32 a0_0, .slice (some ad279) l0_1.length c0_1] 40 (0, 0)) (by (with_reducible repeat (first | refine zae ?_ _ | refine zaj ?_ | refine zad ?_ _)); exact BK276.out)) : gb276 ≠ gb280)); have n6_ := Aside0.mk ((by rw [hg]; exact Nat.ne_of_gt (za3 (g := gb276) (o := .cells #[.int .u32 a0_0, .slice (some ad279) l0_1.length c0_1] 40 (0, 0)) (by (with_reducible repeat (first | refine zae ?_ _ | refine zaj ?_ | refine zad ?_ _)); exact BK276.out)) : gb280 ≠ gb276)); clear BK276; clear HB; have BK276 := n0_; have HB := n1_; have BK280 := n2_; have GW280 := n3_; have GE280 := n4_; have NB276_280 := n5_; have NB280_276 := n6_; clear n0_ n1_ n2_ n3_ n4_ n5_ n6_; clear hb hbox hg; have hnb54 := NB280_276.out; have hnc54 := NB276_280.out; have hcz55_0 : w53.cell? ⟨gb280, 0, none⟩ = some (.int .u32 0) := (zai BK280.out 0).trans rfl; have hcz55_1 : w53.cell? ⟨gb280, 1, none⟩ = some (.int .u32 0) := (zai BK280.out 1).trans rfl; have hcz55_2 : w53.cell? ⟨gb280, 2, none⟩ = some (.int .i64 0) := (zai BK280.out 2).trans rfl; have hcz55_3 : w53.cell? ⟨gb280, 3, none⟩ = some (.slice none 0 0) := (zai BK280.out 3).trans rfl; have hfz55_0 := zah BK280.out 0; have hfz55_1 := zah BK280.out 1; have hfz55_2 := zah BK280.out 2; have hfz55_3 := zah BK280.out 3)); try go_wp2_with (first | ((with_reducible refine zax (N := 9) rfl ?_); (try (refine za6 (by rfl) ?_; dsimp only)); refine zau ?hg (N := 9) ?hd (cs := #[.int .u32 0, .int .u32 0, .int .i64 0, .slice none 0 0]) (t := 65) ?hr ?_; (case hd => rfl); (case hg => rfl); (case hr => first | (go_simp; done) | (go_simp; rfl)); intro gb280 hg w53 hbox hb; have n0_ := Aside0.mk (zaq (g := gb276) (o := .cells #[.int .u32 a0_0, .slice (some ad279) l0_1.length c0_1] 40 (0, 0)) (by (with_reducible repeat (first | refine zae ?_ _ | refine zaj ?_ | refine zad ?_ _)); exact BK276.out) hb); have n1_ := Aside0.mk (zam (by with_reducible repeat (first | exact HB.out | apply zab | apply zaa | apply zac | refine zaf ?_ GE276.out)) hb); have n2_ := Aside0.mk (hbox); have n3_ := Aside0.mk ((by rw [hg]; exact (zak (by with_reducible repeat (first | exact HB.out | apply zab | apply zaa | apply zac | refine zaf ?_ GE276.out))) : w.heap.size ≤ gb280)); have n4_ := Aside0.mk ((by rw [hg]; exact (zak (by with_reducible repeat (first | exact HB.out | apply zab | apply zaa | apply zac | refine zaf ?_ GE276.out))) : w.heap.size ≤ gb280)); have n5_ := Aside0.mk ((by rw [hg]; exact Nat.ne_of_lt (za3 (g := gb276) (o := .cells #[.int .u32 a0_0, .slice (some ad279) l0_1.length c0_1] 40 (0, 0)) (by (with_reducible repeat (first | refine zae ?_ _ | refine zaj ?_ | refine zad ?_ _)); exact BK276.out)) : gb276 ≠ gb280)); have n6_ := Aside0.mk ((by rw [hg]; exact Nat.ne_of_gt (za3 (g := gb276) (o := .cells #[.int .u32 a0_0, .slice (some ad279) l0_1.length c0_1] 40 (0, 0)) (by (with_reducible repeat (first | refine zae ?_ _ | refine zaj ?_ | refine zad ?_ _)); exact BK276.out)) : gb280 ≠ gb276)); clear BK276; clear HB; have BK276 := n0_; have HB := n1_; have BK280 := n2_; have GW280 := n3_; have GE280 := n4_; have NB276_280 := n5_; have NB280_276 := n6_; clear n0_ n1_ n2_ n3_ n4_ n5_ n6_; clear hb hbox hg; have hnb54 := NB280_276.out; have hnc54 := NB276_280.out; have hcz55_0 : w53.cell? ⟨gb280, 0, none⟩ = some (.int .u32 0) := (zai BK280.out 0).trans rfl; have hcz55_1 : w53.cell? ⟨gb280, 1, none⟩ = some (.int .u32 0) := (zai BK280.out 1).trans rfl; have hcz55_2 : w53.cell? ⟨gb280, 2, none⟩ = some (.int .i64 0) := (zai BK280.out 2).trans rfl; have hcz55_3 : w53.cell? ⟨gb280, 3, none⟩ = some (.slice none 0 0) := (zai BK280.out 3).trans rfl; have hfz55_0 := zah BK280.out 0; have hfz55_1 := zah BK280.out 1; have hfz55_2 := zah BK280.out 2; have hfz55_3 := zah BK280.out 3)))
              go_loopg [10] k3 (fun kq v10 w' => ∃ (x10_4 : Int), v10 = .int .i64 x10_4 ∧ Aside0 (tinctureref7_GoodImage.l2 kq x7_3 x8_3 x10_4 a0_0 l0_1 ((zal l0_1 x8_3).f0) ((zal l0_1 x8_3).f1) ((zal l0_1 x8_3).f2) ((zal l0_1 x8_3).f3) = some r) ∧ Aside0 (kq ≤ k3) ∧ Aside0 (w'.heap[gb276]? = some (.cells #[.int .u32 a0_0, (.slice (some ad279) l0_1.length c0_1)] 40 (0, 0))) ∧ Aside0 (w'.heap[gb280]? = some (.cells #[.int .u32 ((zal l0_1 x8_3).f0), .int .u32 ((zal l0_1 x8_3).f1), .int .i64 ((zal l0_1 x8_3).f2), (.slice A279_3 ((zal l0_1 x8_3).f3).length c279_3)] 65 (0, 0))) ∧ Aside0 (Below w.heap.size w w'))
              case atStart => exact ⟨(0), (by first | rfl | (simp; done) | (simp [*]; done)), H', ⟨Nat.le_refl _⟩, ⟨by (with_reducible repeat (first | refine zae ?_ _ | refine zaj ?_ | refine zad ?_ _)); refine za4 ?_ NB276_280.out _; (with_reducible repeat (first | refine zae ?_ _ | refine zaj ?_ | refine zad ?_ _)); refine za4 ?_ NB276_280.out _; (with_reducible repeat (first | refine zae ?_ _ | refine zaj ?_ | refine zad ?_ _)); refine za4 ?_ NB276_280.out _; (with_reducible repeat (first | refine zae ?_ _ | refine zaj ?_ | refine zad ?_ _)); refine za4 ?_ NB276_280.out _; (with_reducible repeat (first | refine zae ?_ _ | refine zaj ?_ | refine zad ?_ _)); exact BK276.out⟩, ⟨by (with_reducible repeat (first | refine zae ?_ _ | refine zaj ?_ | refine zad ?_ _)); refine za8 (cs := #[.int .u32 ((zal l0_1 x8_3).f0), .int .u32 ((zal l0_1 x8_3).f1), .int .i64 ((zal l0_1 x8_3).f2), .slice none 0 0]) ?_ 3 _ rfl; (with_reducible repeat (first | refine zae ?_ _ | refine zaj ?_ | refine zad ?_ _)); refine za8 (cs := #[.int .u32 ((zal l0_1 x8_3).f0), .int .u32 ((zal l0_1 x8_3).f1), .int .i64 0, .slice none 0 0]) ?_ 2 _ rfl; (with_reducible repeat (first | refine zae ?_ _ | refine zaj ?_ | refine zad ?_ _)); refine za8 (cs := #[.int .u32 ((zal l0_1 x8_3).f0), .int .u32 0, .int .i64 0, .slice none 0 0]) ?_ 1 _ rfl; (with_reducible repeat (first | refine zae ?_ _ | refine zaj ?_ | refine zad ?_ _)); refine za8 (cs := #[.int .u32 0, .int .u32 0, .int .i64 0, .slice none 0 0]) ?_ 0 _ rfl; (with_reducible repeat (first | refine zae ?_ _ | refine zaj ?_ | refine zad ?_ _)); exact BK280.out⟩, ⟨by repeat (first | (with_reducible first | exact HB.out | apply zab | apply zaa | apply zac | refine zaf ?_ GE276.out | refine zaf ?_ GE280.out) | exact HB.out)⟩⟩
              case round =>
                clear H'
                try clear c1
                try clear c2
                try clear c2b0
                try clear c2b1
                try clear p2
                try clear q2
                try clear hx2
                try clear c3
                try clear c4
                try clear c5
                try clear c5b0
                try clear c5b1
                try clear c5b2
                try clear p6
                try clear c10
                try clear c10b0
                try clear c11
                try clear c11b0
                try clear c12
                try clear c12b0
                try clear c12b1
                try clear c13
                try clear c13b0
                try clear c13b1
                try clear c16
                try clear c18
                try clear c18b0
                try clear c21
                try clear c23
                try clear c23b0
                try clear c26
                try clear c27
                try clear p27
                try clear q27
                try clear hx27
                try clear c28
                try clear c28b0
                try clear c31
                try clear c33
                try clear c33b0
                try clear c36
                try clear c40
                try clear c44
                try clear c48
                try clear c48b0
                try clear c49
                try clear c50
                try clear c50b0
                try clear c51
                try clear c51b0
                try clear c54
                try clear hcz14_0
                try clear hcz14_1
                try clear hcz17_0
                try clear hcz17_1
                try clear hcz17_2
                try clear hcz17_3
                try clear hcz19_0
                try clear hcz19_1
                try clear hcz22_0
                try clear hcz22_1
                try clear hcz22_2
                try clear hcz22_3
                try clear hcz24_0
                try clear hcz24_1
                try clear hcz27_0
                try clear hcz27_1
                try clear hcz27_2
                try clear hcz27_3
                try clear hcz29_0
                try clear hcz29_1
                try clear hcz32_0
                try clear hcz32_1
                try clear hcz32_2
                try clear hcz32_3
                try clear hcz34_0
                try clear hcz34_1
                try clear hcz37_0
                try clear hcz37_1
                try clear hcz37_2
                try clear hcz37_3
                try clear hcz38_0
                try clear hcz38_1
                try clear hcz41_0
                try clear hcz41_1
                try clear hcz41_2
                try clear hcz41_3
                try clear hcz42_0
                try clear hcz42_1
                try clear hcz45_0
                try clear hcz45_1
                try clear hcz45_2
                try clear hcz45_3
                try clear hcz47_0
                try clear hcz47_1
                try clear hcz4_0
                try clear hcz4_1
                try clear hcz52_0
                try clear hcz52_1
                try clear hcz55_0
                try clear hcz55_1
                try clear hcz55_2
                try clear hcz55_3
                try clear hcz7_0
                try clear hcz7_1
                try clear hcz9_0
                try clear hcz9_1
                try clear hfz14_0
                try clear hfz14_1
                try clear hfz17_0
                try clear hfz17_1
                try clear hfz17_2
                try clear hfz17_3
                try clear hfz19_0
                try clear hfz19_1
                try clear hfz22_0
                try clear hfz22_1
                try clear hfz22_2
                try clear hfz22_3
                try clear hfz24_0
                try clear hfz24_1
                try clear hfz27_0
                try clear hfz27_1
                try clear hfz27_2
                try clear hfz27_3
                try clear hfz29_0
                try clear hfz29_1
                try clear hfz32_0
                try clear hfz32_1
                try clear hfz32_2
                try clear hfz32_3
                try clear hfz34_0
                try clear hfz34_1
                try clear hfz37_0
                try clear hfz37_1
                try clear hfz37_2
                try clear hfz37_3
                try clear hfz38_0
                try clear hfz38_1
                try clear hfz41_0
                try clear hfz41_1
                try clear hfz41_2
                try clear hfz41_3
                try clear hfz42_0
                try clear hfz42_1
                try clear hfz45_0
                try clear hfz45_1
                try clear hfz45_2
                try clear hfz45_3
                try clear hfz47_0
                try clear hfz47_1
                try clear hfz4_0
                try clear hfz4_1
                try clear hfz52_0
                try clear hfz52_1
                try clear hfz55_0
                try clear hfz55_1
                try clear hfz55_2
                try clear hfz55_3
                try clear hfz7_0
                try clear hfz7_1
                try clear hfz9_0
                try clear hfz9_1
                try clear hx277_0
                try clear hx277_1
                try clear hx277_2
                try clear hx277_3
                try clear hx279_0
                try clear hx279_1
                try clear hx279_2
                try clear hx279_3
                try clear p2
                try clear p27
                try clear p277
                try clear p279
                try clear p6
                try clear q2
                try clear q27
                try clear q277
                try clear q279
                obtain ⟨x10_4, rfl, HA, HK4, BK276, BK280, HB⟩ := hrel
                cases gk with
                | zero => exact absurd HA.out (by simp [tinctureref7_GoodImage.l2])
                | succ k4 =>
                  have H := HA.out; clear HA; simp only [tinctureref7_GoodImage.l2] at H
                  by_cases c56 : x10_4 < x8_3
                  rotate_left
                  · rw [if_neg c56] at H
                    have c56b0 : decide (x10_4 < x8_3) = false := decide_eq_false c56; clear c56
                    by_cases c84 : x7_3 = true
                    · subst c84
                      have H1 : (tinctureref7_GoodImage.l1 k4 true (wrap64 (x8_3 + 1)) a0_0 l0_1) = some r := by rw [if_pos rfl] at H; exact H
                      clear H; have H := H1; clear H1
                      have H' := Aside0.mk H
                      clear H; go_wp2
                      repeat (go_quiet (fail); try go_wp2)
                      go_roundg k4
                      case measure => have := HK1.out; have := HJ45.out; have := HK3.out; have := HK4.out; omega
                      case rel => exact ⟨(true), (wrap64 (x8_3 + 1)), (by first | rfl | (simp; done) | (simp [*]; done)), (by first | rfl | (simp; done) | (simp [*]; done)), H', ⟨by have := HK1.out; have := HJ45.out; have := HK3.out; have := HK4.out; omega⟩, ⟨by (with_reducible repeat (first | refine zae ?_ _ | refine zaj ?_ | refine zad ?_ _)); exact BK276.out⟩, ⟨by repeat (first | (with_reducible first | exact HB.out | apply zab | apply zaa | apply zac | refine zaf ?_ GE276.out | refine zaf ?_ GE280.out) | exact HB.out)⟩⟩
                    replace c84 := Bool.eq_false_iff.mpr c84
                    subst c84
                    have H1 : (if (Go.bits .and .i64 ((zal l0_1 x8_3).f2) 4) = 0 then (tinctureref7_GoodImage.l1 k4 false (wrap64 (x8_3 + 1)) a0_0 l0_1) else (if a0_0 ≥ ((zal l0_1 x8_3).f0) then (tinctureref7_GoodImage.l1 k4 (decide ((wrap64 ((wrap64 (a0_0)) - (wrap64 (((zal l0_1 x8_3).f0))))) < (wrap64 (((zal l0_1 x8_3).f1))))) (wrap64 (x8_3 + 1)) a0_0 l0_1) else (tinctureref7_GoodImage.l1 k4 false (wrap64 (x8_3 + 1)) a0_0 l0_1))) = some r := by rw [if_neg (show ¬ (false = true) by decide)] at H; exact H
                    clear H; have H := H1; clear H1
                    by_cases c85 : (Go.bits .and .i64 ((zal l0_1 x8_3).f2) 4) = 0
                    · rw [if_pos c85] at H
                      have c85b0 : ((Go.bits .and .i64 ((zal l0_1 x8_3).f2) 4) == 0) = true := beq_iff_eq.mpr c85; have c85b1 : ((Go.bits .and .i64 ((zal l0_1 x8_3).f2) 4) != 0) = false := bne_eq_false_iff_eq.mpr c85; clear c85
                      have H' := Aside0.mk H
                      clear H; have hnb86 := NB280_276.out; have hnc86 := NB276_280.out; have hcz87_0 : wr.cell? ⟨gb280, 0, none⟩ = some (.int .u32 ((zal l0_1 x8_3).f0)) := (zai BK280.out 0).trans rfl; have hcz87_1 : wr.cell? ⟨gb280, 1, none⟩ = some (.int .u32 ((zal l0_1 x8_3).f1)) := (zai BK280.out 1).trans rfl; have hcz87_2 : wr.cell? ⟨gb280, 2, none⟩ = some (.int .i64 ((zal l0_1 x8_3).f2)) := (zai BK280.out 2).trans rfl; have hcz87_3 : wr.cell? ⟨gb280, 3, none⟩ = some (.slice A279_3 ((zal l0_1 x8_3).f3).length c279_3) := (zai BK280.out 3).trans rfl; have hfz87_0 := zah BK280.out 0; have hfz87_1 := zah BK280.out 1; have hfz87_2 := zah BK280.out 2; have hfz87_3 := zah BK280.out 3; go_wp2
                      repeat (go_quiet (fail); try go_wp2)
                      go_roundg k4
                      case measure => have := HK1.out; have := HJ45.out; have := HK3.out; have := HK4.out; omega
                      case rel => exact ⟨(false), (wrap64 (x8_3 + 1)), (by first | rfl | (simp; done) | (simp [*]; done)), (by first | rfl | (simp; done) | (simp [*]; done)), H', ⟨by have := HK1.out; have := HJ45.out; have := HK3.out; have := HK4.out; omega⟩, ⟨by (with_reducible repeat (first | refine zae ?_ _ | refine zaj ?_ | refine zad ?_ _)); exact BK276.out⟩, ⟨by repeat (first | (with_reducible first | exact HB.out | apply zab | apply zaa | apply zac | refine zaf ?_ GE276.out | refine zaf ?_ GE280.out) | exact HB.out)⟩⟩
                    rw [if_neg c85] at H; have c85b0 : ((Go.bits .and .i64 ((zal l0_1 x8_3).f2) 4) == 0) = false := beq_eq_false_iff_ne.mpr c85; have c85b1 : ((Go.bits .and .i64 ((zal l0_1 x8_3).f2) 4) != 0) = true := bne_iff_ne.mpr c85
                    by_cases c88 : a0_0 ≥ ((zal l0_1 x8_3).f0)
                    rotate_left
                    · rw [if_neg c88] at H
                      have c88b0 : decide (((zal l0_1 x8_3).f0) ≤ a0_0) = false := decide_eq_false c88; clear c88
                      have H' := Aside0.mk H
                      clear H; have hnb92 := NB280_276.out; have hnc92 := NB276_280.out; have hcz93_0 : wr.cell? ⟨gb280, 0, none⟩ = some (.int .u32 ((zal l0_1 x8_3).f0)) := (zai BK280.out 0).trans rfl; have hcz93_1 : wr.cell? ⟨gb280, 1, none⟩ = some (.int .u32 ((zal l0_1 x8_3).f1)) := (zai BK280.out 1).trans rfl; have hcz93_2 : wr.cell? ⟨gb280, 2, none⟩ = some (.int .i64 ((zal l0_1 x8_3).f2)) := (zai BK280.out 2).trans rfl; have hcz93_3 : wr.cell? ⟨gb280, 3, none⟩ = some (.slice A279_3 ((zal l0_1 x8_3).f3).length c279_3) := (zai BK280.out 3).trans rfl; have hfz93_0 := zah BK280.out 0; have hfz93_1 := zah BK280.out 1; have hfz93_2 := zah BK280.out 2; have hfz93_3 := zah BK280.out 3; have hcz94_0 : wr.cell? ⟨gb276, 0, none⟩ = some (.int .u32 a0_0) := (zai BK276.out 0).trans rfl; have hcz94_1 : wr.cell? ⟨gb276, 1, none⟩ = some (.slice (some ad279) l0_1.length c0_1) := (zai BK276.out 1).trans rfl; have hfz94_0 := zah BK276.out 0; have hfz94_1 := zah BK276.out 1; go_wp2
                      repeat (go_quiet (fail); try go_wp2)
                      go_roundg k4
                      case measure => have := HK1.out; have := HJ45.out; have := HK3.out; have := HK4.out; omega
                      case rel => exact ⟨(false), (wrap64 (x8_3 + 1)), (by first | rfl | (simp; done) | (simp [*]; done)), (by first | rfl | (simp; done) | (simp [*]; done)), H', ⟨by have := HK1.out; have := HJ45.out; have := HK3.out; have := HK4.out; omega⟩, ⟨by (with_reducible repeat (first | refine zae ?_ _ | refine zaj ?_ | refine zad ?_ _)); exact BK276.out⟩, ⟨by repeat (first | (with_reducible first | exact HB.out | apply zab | apply zaa | apply zac | refine zaf ?_ GE276.out | refine zaf ?_ GE280.out) | exact HB.out)⟩⟩
                    rw [if_pos c88] at H; have c88b0 : decide (((zal l0_1 x8_3).f0) ≤ a0_0) = true := decide_eq_true c88; clear c88
                    have H' := Aside0.mk H
                    clear H; have hnb89 := NB280_276.out; have hnc89 := NB276_280.out; have hcz90_0 : wr.cell? ⟨gb280, 0, none⟩ = some (.int .u32 ((zal l0_1 x8_3).f0)) := (zai BK280.out 0).trans rfl; have hcz90_1 : wr.cell? ⟨gb280, 1, none⟩ = some (.int .u32 ((zal l0_1 x8_3).f1)) := (zai BK280.out 1).trans rfl; have hcz90_2 : wr.cell? ⟨gb280, 2, none⟩ = some (.int .i64 ((zal l0_1 x8_3).f2)) := (zai BK280.out 2).trans rfl; have hcz90_3 : wr.cell? ⟨gb280, 3, none⟩ = some (.slice A279_3 ((zal l0_1 x8_3).f3).length c279_3) := (zai BK280.out 3).trans rfl; have hfz90_0 := zah BK280.out 0; have hfz90_1 := zah BK280.out 1; have hfz90_2 := zah BK280.out 2; have hfz90_3 := zah BK280.out 3; have hcz91_0 : wr.cell? ⟨gb276, 0, none⟩ = some (.int .u32 a0_0) := (zai BK276.out 0).trans rfl; have hcz91_1 : wr.cell? ⟨gb276, 1, none⟩ = some (.slice (some ad279) l0_1.length c0_1) := (zai BK276.out 1).trans rfl; have hfz91_0 := zah BK276.out 0; have hfz91_1 := zah BK276.out 1; go_wp2
                    repeat (go_quiet (fail); try go_wp2)
                    go_roundg k4
                    case measure => have := HK1.out; have := HJ45.out; have := HK3.out; have := HK4.out; omega
                    case rel => exact ⟨(decide ((wrap64 ((wrap64 (a0_0)) - (wrap64 (((zal l0_1 x8_3).f0))))) < (wrap64 (((zal l0_1 x8_3).f1))))), (wrap64 (x8_3 + 1)), (by first | rfl | (simp; done) | (simp [*]; done)), (by first | rfl | (simp; done) | (simp [*]; done)), H', ⟨by have := HK1.out; have := HJ45.out; have := HK3.out; have := HK4.out; omega⟩, ⟨by (with_reducible repeat (first | refine zae ?_ _ | refine zaj ?_ | refine zad ?_ _)); exact BK276.out⟩, ⟨by repeat (first | (with_reducible first | exact HB.out | apply zab | apply zaa | apply zac | refine zaf ?_ GE276.out | refine zaf ?_ GE280.out) | exact HB.out)⟩⟩
                  rw [if_pos c56] at H; have c56b0 : decide (x10_4 < x8_3) = true := decide_eq_true c56; clear c56
                  by_cases c57 : 0 ≤ x10_4
                  rotate_left
                  · rw [if_neg c57] at H
                    exact absurd H (by simp)
                  rw [if_pos c57] at H; have c57b0 : decide (0 ≤ x10_4) = true := decide_eq_true c57; clear c57
                  by_cases c58 : x10_4 < (l0_1.length : Int)
                  rotate_left
                  · rw [if_neg c58] at H
                    exact absurd H (by simp)
                  rw [if_pos c58] at H; have c58b0 : decide (x10_4 < (l0_1.length : Int)) = true := decide_eq_true c58; clear c58
                  replace H := Option.bind_eq_some_iff.mp H
                  obtain ⟨t283, A590, H⟩ := H; replace H : (if (wrap64 (((zal l0_1 x8_3).f0))) < (wrap64 ((wrap64 ((zal l0_1 x10_4).f0)) + t283)) then ((tinctureref7_up.f (wrap64 (((zal l0_1 x8_3).f1)))).bind fun t284 => (if (wrap64 ((zal l0_1 x10_4).f0)) < (wrap64 ((wrap64 (((zal l0_1 x8_3).f0))) + t284)) then (some 1) else (tinctureref7_GoodImage.l2 k4 x7_3 x8_3 (wrap64 (x10_4 + 1)) a0_0 l0_1 ((zal l0_1 x8_3).f0) ((zal l0_1 x8_3).f1) ((zal l0_1 x8_3).f2) ((zal l0_1 x8_3).f3)))) else (tinctureref7_GoodImage.l2 k4 x7_3 x8_3 (wrap64 (x10_4 + 1)) a0_0 l0_1 ((zal l0_1 x8_3).f0) ((zal l0_1 x8_3).f1) ((zal l0_1 x8_3).f2) ((zal l0_1 x8_3).f3))) = some r := H; have A59 := Aside0.mk A590; clear A590
                  by_cases c60 : (wrap64 (((zal l0_1 x8_3).f0))) < (wrap64 ((wrap64 ((zal l0_1 x10_4).f0)) + t283))
                  rotate_left
                  · rw [if_neg c60] at H
                    have c60b0 : decide ((wrap64 (((zal l0_1 x8_3).f0))) < (wrap64 ((wrap64 ((zal l0_1 x10_4).f0)) + t283))) = false := decide_eq_false c60; clear c60
                    have H' := Aside0.mk H
                    clear H; have hnb77 := NB276_280.out; have hnc77 := NB280_276.out; have hcz78_0 : wr.cell? ⟨gb276, 0, none⟩ = some (.int .u32 a0_0) := (zai BK276.out 0).trans rfl; have hcz78_1 : wr.cell? ⟨gb276, 1, none⟩ = some (.slice (some ad279) l0_1.length c0_1) := (zai BK276.out 1).trans rfl; have hfz78_0 := zah BK276.out 0; have hfz78_1 := zah BK276.out 1; have p281 : 0 ≤ (x10_4 : Int) := of_decide_eq_true (by assumption); have q281 : x10_4 < (l0_1.length : Int) := of_decide_eq_true (by assumption); obtain ⟨ad281, A281_3, c281_3, e281, hx281_0, hx281_1, hx281_2, hx281_3, hl281_3, hi281_3⟩ := zc6 HR0_1.out x10_4 p281 q281; obtain rfl : ad279 = ad281 := (by injection e281)
                    replace hx281_0 := (HB.out.cell (World.block_lt_of_cell? w _ hx281_0)).trans hx281_0
                    replace hx281_1 := (HB.out.cell (World.block_lt_of_cell? w _ hx281_1)).trans hx281_1
                    replace hx281_2 := (HB.out.cell (World.block_lt_of_cell? w _ hx281_2)).trans hx281_2
                    replace hx281_3 := (HB.out.cell (World.block_lt_of_cell? w _ hx281_3)).trans hx281_3
                    have HR281_3 := Aside0.mk hi281_3; have HC281_3 := Aside0.mk hl281_3; clear hi281_3 hl281_3
                    replace p281 := eq_true p281
                    replace q281 := eq_true q281
                    go_wp2_with (first | ((with_reducible refine zax (N := 11) rfl ?_); (try (refine za6 (by rfl) ?_; dsimp only)); refine zau ?hg (N := 11) ?hd (cs := #[.int .u32 0, .int .u32 0, .int .i64 0, .slice none 0 0]) (t := 65) ?hr ?_; (case hd => rfl); (case hg => rfl); (case hr => first | (go_simp; done) | (go_simp; rfl)); intro gb282 hg w79 hbox hb; have n0_ := Aside0.mk (zaq (g := gb276) (o := .cells #[.int .u32 a0_0, .slice (some ad279) l0_1.length c0_1] 40 (0, 0)) (by (with_reducible repeat (first | refine zae ?_ _ | refine zaj ?_ | refine zad ?_ _)); exact BK276.out) hb); have n1_ := Aside0.mk (zaq (g := gb280) (o := .cells #[.int .u32 ((zal l0_1 x8_3).f0), .int .u32 ((zal l0_1 x8_3).f1), .int .i64 ((zal l0_1 x8_3).f2), .slice A279_3 ((zal l0_1 x8_3).f3).length c279_3] 65 (0, 0)) (by (with_reducible repeat (first | refine zae ?_ _ | refine zaj ?_ | refine zad ?_ _)); exact BK280.out) hb); have n2_ := Aside0.mk (zam (by with_reducible repeat (first | exact HB.out | apply zab | apply zaa | apply zac | refine zaf ?_ GE276.out | refine zaf ?_ GE280.out)) hb); have n3_ := Aside0.mk (hbox); have n4_ := Aside0.mk ((by rw [hg]; exact (zak (by with_reducible repeat (first | exact HB.out | apply zab | apply zaa | apply zac | refine zaf ?_ GE276.out | refine zaf ?_ GE280.out))) : w.heap.size ≤ gb282)); have n5_ := Aside0.mk ((by rw [hg]; exact (zak (by with_reducible repeat (first | exact HB.out | apply zab | apply zaa | apply zac | refine zaf ?_ GE276.out | refine zaf ?_ GE280.out))) : w.heap.size ≤ gb282)); have n6_ := Aside0.mk ((by rw [hg]; exact Nat.ne_of_lt (za3 (g := gb276) (o := .cells #[.int .u32 a0_0, .slice (some ad279) l0_1.length c0_1] 40 (0, 0)) (by (with_reducible repeat (first | refine zae ?_ _ | refine zaj ?_ | refine zad ?_ _)); exact BK276.out)) : gb276 ≠ gb282)); have n7_ := Aside0.mk ((by rw [hg]; exact Nat.ne_of_gt (za3 (g := gb276) (o := .cells #[.int .u32 a0_0, .slice (some ad279) l0_1.length c0_1] 40 (0, 0)) (by (with_reducible repeat (first | refine zae ?_ _ | refine zaj ?_ | refine zad ?_ _)); exact BK276.out)) : gb282 ≠ gb276)); have n8_ := Aside0.mk ((by rw [hg]; exact Nat.ne_of_lt (za3 (g := gb280) (o := .cells #[.int .u32 ((zal l0_1 x8_3).f0), .int .u32 ((zal l0_1 x8_3).f1), .int .i64 ((zal l0_1 x8_3).f2), .slice A279_3 ((zal l0_1 x8_3).f3).length c279_3] 65 (0, 0)) (by (with_reducible repeat (first | refine zae ?_ _ | refine zaj ?_ | refine zad ?_ _)); exact BK280.out)) : gb280 ≠ gb282)); have n9_ := Aside0.mk ((by rw [hg]; exact Nat.ne_of_gt (za3 (g := gb280) (o := .cells #[.int .u32 ((zal l0_1 x8_3).f0), .int .u32 ((zal l0_1 x8_3).f1), .int .i64 ((zal l0_1 x8_3).f2), .slice A279_3 ((zal l0_1 x8_3).f3).length c279_3] 65 (0, 0)) (by (with_reducible repeat (first | refine zae ?_ _ | refine zaj ?_ | refine zad ?_ _)); exact BK280.out)) : gb282 ≠ gb280)); clear BK276; clear BK280; clear HB; have BK276 := n0_; have BK280 := n1_; have HB := n2_; have BK282 := n3_; have GW282 := n4_; have GE282 := n5_; have NB276_282 := n6_; have NB282_276 := n7_; have NB280_282 := n8_; have NB282_280 := n9_; clear n0_ n1_ n2_ n3_ n4_ n5_ n6_ n7_ n8_ n9_; clear hb hbox hg; have hnb80 := NB282_276.out; have hnc80 := NB276_282.out; have hnb81 := NB282_280.out; have hnc81 := NB280_282.out; have hcz82_0 : w79.cell? ⟨gb282, 0, none⟩ = some (.int .u32 0) := (zai BK282.out 0).trans rfl; have hcz82_1 : w79.cell? ⟨gb282, 1, none⟩ = some (.int .u32 0) := (zai BK282.out 1).trans rfl; have hcz82_2 : w79.cell? ⟨gb282, 2, none⟩ = some (.int .i64 0) := (zai BK282.out 2).trans rfl; have hcz82_3 : w79.cell? ⟨gb282, 3, none⟩ = some (.slice none 0 0) := (zai BK282.out 3).trans rfl; have hfz82_0 := zah BK282.out 0; have hfz82_1 := zah BK282.out 1; have hfz82_2 := zah BK282.out 2; have hfz82_3 := zah BK282.out 3; have hcz83_0 : w79.cell? ⟨gb280, 0, none⟩ = some (.int .u32 ((zal l0_1 x8_3).f0)) := (zai BK280.out 0).trans rfl; have hcz83_1 : w79.cell? ⟨gb280, 1, none⟩ = some (.int .u32 ((zal l0_1 x8_3).f1)) := (zai BK280.out 1).trans rfl; have hcz83_2 : w79.cell? ⟨gb280, 2, none⟩ = some (.int .i64 ((zal l0_1 x8_3).f2)) := (zai BK280.out 2).trans rfl; have hcz83_3 : w79.cell? ⟨gb280, 3, none⟩ = some (.slice A279_3 ((zal l0_1 x8_3).f3).length c279_3) := (zai BK280.out 3).trans rfl; have hfz83_0 := zah BK280.out 0; have hfz83_1 := zah BK280.out 1; have hfz83_2 := zah BK280.out 2; have hfz83_3 := zah BK280.out 3) | (go_at_call 32; (with_reducible refine (tinctureref7_up.calls (wrap64 ((zal l0_1 x10_4).f1)) t283 _ A59.out).mono ?_); rintro e w' ⟨rfl, ⟨nd, rfl⟩⟩; (try first | exact ⟨rfl, _, World.drewN_drewN _ _ _⟩ | exact ⟨rfl, _, Eq.trans (World.drewN_drewN _ _ _) (congrArg (World.drewN _) (Nat.add_assoc _ _ _))⟩)))
                    repeat (go_quiet (first | ((with_reducible refine zax (N := 11) rfl ?_); (try (refine za6 (by rfl) ?_; dsimp only)); refine zau ?hg (N := 11) ?hd (cs := #[.int .u32 0, .int .u32 0, .int .i64 0, .slice none 0 0]) (t := 65) ?hr ?_; (case hd => rfl); (case hg => rfl); (case hr => first | (go_simp; done) | (go_simp; rfl)); intro gb282 hg w79 hbox hb; have n0_ := Aside0.mk (zaq (g := gb276) (o := .cells #[.int .u32 a0_0, .slice (some ad279) l0_1.length c0_1] 40 (0, 0)) (by (with_reducible repeat (first | refine zae ?_ _ | refine zaj ?_ | refine zad ?_ _)); exact BK276.out) hb); have n1_ := Aside0.mk (zaq (g := gb280) (o := .cells #[.int .u32 ((zal l0_1 x8_3).f0), .int .u32 ((zal l0_1 x8_3).f1), .int .i64 ((zal l0_1 x8_3).f2), .slice A279_3 ((zal l0_1 x8_3).f3).length c279_3] 65 (0, 0)) (by (with_reducible repeat (first | refine zae ?_ _ | refine zaj ?_ | refine zad ?_ _)); exact BK280.out) hb); have n2_ := Aside0.mk (zam (by with_reducible repeat (first | exact HB.out | apply zab | apply zaa | apply zac | refine zaf ?_ GE276.out | refine zaf ?_ GE280.out)) hb); have n3_ := Aside0.mk (hbox); have n4_ := Aside0.mk ((by rw [hg]; exact (zak (by with_reducible repeat (first | exact HB.out | apply zab | apply zaa | apply zac | refine zaf ?_ GE276.out | refine zaf ?_ GE280.out))) : w.heap.size ≤ gb282)); have n5_ := Aside0.mk ((by rw [hg]; exact (zak (by with_reducible repeat (first | exact HB.out | apply zab | apply zaa | apply zac | refine zaf ?_ GE276.out | refine zaf ?_ GE280.out))) : w.heap.size ≤ gb282)); have n6_ := Aside0.mk ((by rw [hg]; exact Nat.ne_of_lt (za3 (g := gb276) (o := .cells #[.int .u32 a0_0, .slice (some ad279) l0_1.length c0_1] 40 (0, 0)) (by (with_reducible repeat (first | refine zae ?_ _ | refine zaj ?_ | refine zad ?_ _)); exact BK276.out)) : gb276 ≠ gb282)); have n7_ := Aside0.mk ((by rw [hg]; exact Nat.ne_of_gt (za3 (g := gb276) (o := .cells #[.int .u32 a0_0, .slice (some ad279) l0_1.length c0_1] 40 (0, 0)) (by (with_reducible repeat (first | refine zae ?_ _ | refine zaj ?_ | refine zad ?_ _)); exact BK276.out)) : gb282 ≠ gb276)); have n8_ := Aside0.mk ((by rw [hg]; exact Nat.ne_of_lt (za3 (g := gb280) (o := .cells #[.int .u32 ((zal l0_1 x8_3).f0), .int .u32 ((zal l0_1 x8_3).f1), .int .i64 ((zal l0_1 x8_3).f2), .slice A279_3 ((zal l0_1 x8_3).f3).length c279_3] 65 (0, 0)) (by (with_reducible repeat (first | refine zae ?_ _ | refine zaj ?_ | refine zad ?_ _)); exact BK280.out)) : gb280 ≠ gb282)); have n9_ := Aside0.mk ((by rw [hg]; exact Nat.ne_of_gt (za3 (g := gb280) (o := .cells #[.int .u32 ((zal l0_1 x8_3).f0), .int .u32 ((zal l0_1 x8_3).f1), .int .i64 ((zal l0_1 x8_3).f2), .slice A279_3 ((zal l0_1 x8_3).f3).length c279_3] 65 (0, 0)) (by (with_reducible repeat (first | refine zae ?_ _ | refine zaj ?_ | refine zad ?_ _)); exact BK280.out)) : gb282 ≠ gb280)); clear BK276; clear BK280; clear HB; have BK276 := n0_; have BK280 := n1_; have HB := n2_; have BK282 := n3_; have GW282 := n4_; have GE282 := n5_; have NB276_282 := n6_; have NB282_276 := n7_; have NB280_282 := n8_; have NB282_280 := n9_; clear n0_ n1_ n2_ n3_ n4_ n5_ n6_ n7_ n8_ n9_; clear hb hbox hg; have hnb80 := NB282_276.out; have hnc80 := NB276_282.out; have hnb81 := NB282_280.out; have hnc81 := NB280_282.out; have hcz82_0 : w79.cell? ⟨gb282, 0, none⟩ = some (.int .u32 0) := (zai BK282.out 0).trans rfl; have hcz82_1 : w79.cell? ⟨gb282, 1, none⟩ = some (.int .u32 0) := (zai BK282.out 1).trans rfl; have hcz82_2 : w79.cell? ⟨gb282, 2, none⟩ = some (.int .i64 0) := (zai BK282.out 2).trans rfl; have hcz82_3 : w79.cell? ⟨gb282, 3, none⟩ = some (.slice none 0 0) := (zai BK282.out 3).trans rfl; have hfz82_0 := zah BK282.out 0; have hfz82_1 := zah BK282.out 1; have hfz82_2 := zah BK282.out 2; have hfz82_3 := zah BK282.out 3; have hcz83_0 : w79.cell? ⟨gb280, 0, none⟩ = some (.int .u32 ((zal l0_1 x8_3).f0)) := (zai BK280.out 0).trans rfl; have hcz83_1 : w79.cell? ⟨gb280, 1, none⟩ = some (.int .u32 ((zal l0_1 x8_3).f1)) := (zai BK280.out 1).trans rfl; have hcz83_2 : w79.cell? ⟨gb280, 2, none⟩ = some (.int .i64 ((zal l0_1 x8_3).f2)) := (zai BK280.out 2).trans rfl; have hcz83_3 : w79.cell? ⟨gb280, 3, none⟩ = some (.slice A279_3 ((zal l0_1 x8_3).f3).length c279_3) := (zai BK280.out 3).trans rfl; have hfz83_0 := zah BK280.out 0; have hfz83_1 := zah BK280.out 1; have hfz83_2 := zah BK280.out 2; have hfz83_3 := zah BK280.out 3) | (go_at_call 32; (with_reducible refine (tinctureref7_up.calls (wrap64 ((zal l0_1 x10_4).f1)) t283 _ A59.out).mono ?_); rintro e w' ⟨rfl, ⟨nd, rfl⟩⟩; (try first | exact ⟨rfl, _, World.drewN_drewN _ _ _⟩ | exact ⟨rfl, _, Eq.trans (World.drewN_drewN _ _ _) (congrArg (World.drewN _) (Nat.add_assoc _ _ _))⟩))); try go_wp2_with (first | ((with_reducible refine zax (N := 11) rfl ?_); (try (refine za6 (by rfl) ?_; dsimp only)); refine zau ?hg (N := 11) ?hd (cs := #[.int .u32 0, .int .u32 0, .int .i64 0, .slice none 0 0]) (t := 65) ?hr ?_; (case hd => rfl); (case hg => rfl); (case hr => first | (go_simp; done) | (go_simp; rfl)); intro gb282 hg w79 hbox hb; have n0_ := Aside0.mk (zaq (g := gb276) (o := .cells #[.int .u32 a0_0, .slice (some ad279) l0_1.length c0_1] 40 (0, 0)) (by (with_reducible repeat (first | refine zae ?_ _ | refine zaj ?_ | refine zad ?_ _)); exact BK276.out) hb); have n1_ := Aside0.mk (zaq (g := gb280) (o := .cells #[.int .u32 ((zal l0_1 x8_3).f0), .int .u32 ((zal l0_1 x8_3).f1), .int .i64 ((zal l0_1 x8_3).f2), .slice A279_3 ((zal l0_1 x8_3).f3).length c279_3] 65 (0, 0)) (by (with_reducible repeat (first | refine zae ?_ _ | refine zaj ?_ | refine zad ?_ _)); exact BK280.out) hb); have n2_ := Aside0.mk (zam (by with_reducible repeat (first | exact HB.out | apply zab | apply zaa | apply zac | refine zaf ?_ GE276.out | refine zaf ?_ GE280.out)) hb); have n3_ := Aside0.mk (hbox); have n4_ := Aside0.mk ((by rw [hg]; exact (zak (by with_reducible repeat (first | exact HB.out | apply zab | apply zaa | apply zac | refine zaf ?_ GE276.out | refine zaf ?_ GE280.out))) : w.heap.size ≤ gb282)); have n5_ := Aside0.mk ((by rw [hg]; exact (zak (by with_reducible repeat (first | exact HB.out | apply zab | apply zaa | apply zac | refine zaf ?_ GE276.out | refine zaf ?_ GE280.out))) : w.heap.size ≤ gb282)); have n6_ := Aside0.mk ((by rw [hg]; exact Nat.ne_of_lt (za3 (g := gb276) (o := .cells #[.int .u32 a0_0, .slice (some ad279) l0_1.length c0_1] 40 (0, 0)) (by (with_reducible repeat (first | refine zae ?_ _ | refine zaj ?_ | refine zad ?_ _)); exact BK276.out)) : gb276 ≠ gb282)); have n7_ := Aside0.mk ((by rw [hg]; exact Nat.ne_of_gt (za3 (g := gb276) (o := .cells #[.int .u32 a0_0, .slice (some ad279) l0_1.length c0_1] 40 (0, 0)) (by (with_reducible repeat (first | refine zae ?_ _ | refine zaj ?_ | refine zad ?_ _)); exact BK276.out)) : gb282 ≠ gb276)); have n8_ := Aside0.mk ((by rw [hg]; exact Nat.ne_of_lt (za3 (g := gb280) (o := .cells #[.int .u32 ((zal l0_1 x8_3).f0), .int .u32 ((zal l0_1 x8_3).f1), .int .i64 ((zal l0_1 x8_3).f2), .slice A279_3 ((zal l0_1 x8_3).f3).length c279_3] 65 (0, 0)) (by (with_reducible repeat (first | refine zae ?_ _ | refine zaj ?_ | refine zad ?_ _)); exact BK280.out)) : gb280 ≠ gb282)); have n9_ := Aside0.mk ((by rw [hg]; exact Nat.ne_of_gt (za3 (g := gb280) (o := .cells #[.int .u32 ((zal l0_1 x8_3).f0), .int .u32 ((zal l0_1 x8_3).f1), .int .i64 ((zal l0_1 x8_3).f2), .slice A279_3 ((zal l0_1 x8_3).f3).length c279_3] 65 (0, 0)) (by (with_reducible repeat (first | refine zae ?_ _ | refine zaj ?_ | refine zad ?_ _)); exact BK280.out)) : gb282 ≠ gb280)); clear BK276; clear BK280; clear HB; have BK276 := n0_; have BK280 := n1_; have HB := n2_; have BK282 := n3_; have GW282 := n4_; have GE282 := n5_; have NB276_282 := n6_; have NB282_276 := n7_; have NB280_282 := n8_; have NB282_280 := n9_; clear n0_ n1_ n2_ n3_ n4_ n5_ n6_ n7_ n8_ n9_; clear hb hbox hg; have hnb80 := NB282_276.out; have hnc80 := NB276_282.out; have hnb81 := NB282_280.out; have hnc81 := NB280_282.out; have hcz82_0 : w79.cell? ⟨gb282, 0, none⟩ = some (.int .u32 0) := (zai BK282.out 0).trans rfl; have hcz82_1 : w79.cell? ⟨gb282, 1, none⟩ = some (.int .u32 0) := (zai BK282.out 1).trans rfl; have hcz82_2 : w79.cell? ⟨gb282, 2, none⟩ = some (.int .i64 0) := (zai BK282.out 2).trans rfl; have hcz82_3 : w79.cell? ⟨gb282, 3, none⟩ = some (.slice none 0 0) := (zai BK282.out 3).trans rfl; have hfz82_0 := zah BK282.out 0; have hfz82_1 := zah BK282.out 1; have hfz82_2 := zah BK282.out 2; have hfz82_3 := zah BK282.out 3; have hcz83_0 : w79.cell? ⟨gb280, 0, none⟩ = some (.int .u32 ((zal l0_1 x8_3).f0)) := (zai BK280.out 0).trans rfl; have hcz83_1 : w79.cell? ⟨gb280, 1, none⟩ = some (.int .u32 ((zal l0_1 x8_3).f1)) := (zai BK280.out 1).trans rfl; have hcz83_2 : w79.cell? ⟨gb280, 2, none⟩ = some (.int .i64 ((zal l0_1 x8_3).f2)) := (zai BK280.out 2).trans rfl; have hcz83_3 : w79.cell? ⟨gb280, 3, none⟩ = some (.slice A279_3 ((zal l0_1 x8_3).f3).length c279_3) := (zai BK280.out 3).trans rfl; have hfz83_0 := zah BK280.out 0; have hfz83_1 := zah BK280.out 1; have hfz83_2 := zah BK280.out 2; have hfz83_3 := zah BK280.out 3) | (go_at_call 32; (with_reducible refine (tinctureref7_up.calls (wrap64 ((zal l0_1 x10_4).f1)) t283 _ A59.out).mono ?_); rintro e w' ⟨rfl, ⟨nd, rfl⟩⟩; (try first | exact ⟨rfl, _, World.drewN_drewN _ _ _⟩ | exact ⟨rfl, _, Eq.trans (World.drewN_drewN _ _ _) (congrArg (World.drewN _) (Nat.add_assoc _ _ _))⟩))))
                    go_roundg k4
                    case measure => have := HK1.out; have := HJ45.out; have := HK3.out; have := HK4.out; omega
                    case rel => exact ⟨(wrap64 (x10_4 + 1)), (by first | rfl | (simp; done) | (simp [*]; done)), H', ⟨by have := HK1.out; have := HJ45.out; have := HK3.out; have := HK4.out; omega⟩, ⟨by (with_reducible repeat (first | refine zae ?_ _ | refine zaj ?_ | refine zad ?_ _)); refine za4 ?_ NB276_282.out _; (with_reducible repeat (first | refine zae ?_ _ | refine zaj ?_ | refine zad ?_ _)); refine za4 ?_ NB276_282.out _; (with_reducible repeat (first | refine zae ?_ _ | refine zaj ?_ | refine zad ?_ _)); refine za4 ?_ NB276_282.out _; (with_reducible repeat (first | refine zae ?_ _ | refine zaj ?_ | refine zad ?_ _)); refine za4 ?_ NB276_282.out _; (with_reducible repeat (first | refine zae ?_ _ | refine zaj ?_ | refine zad ?_ _)); exact BK276.out⟩, ⟨by (with_reducible repeat (first | refine zae ?_ _ | refine zaj ?_ | refine zad ?_ _)); refine za4 ?_ NB280_282.out _; (with_reducible repeat (first | refine zae ?_ _ | refine zaj ?_ | refine zad ?_ _)); refine za4 ?_ NB280_282.out _; (with_reducible repeat (first | refine zae ?_ _ | refine zaj ?_ | refine zad ?_ _)); refine za4 ?_ NB280_282.out _; (with_reducible repeat (first | refine zae ?_ _ | refine zaj ?_ | refine zad ?_ _)); refine za4 ?_ NB280_282.out _; (with_reducible repeat (first | refine zae ?_ _ | refine zaj ?_ | refine zad ?_ _)); exact BK280.out⟩, ⟨by repeat (first | (with_reducible first | exact HB.out | apply zab | apply zaa | apply zac | refine zaf ?_ GE276.out | refine zaf ?_ GE280.out | refine zaf ?_ GE282.out) | exact HB.out)⟩⟩
                  rw [if_pos c60] at H; have c60b0 : decide ((wrap64 (((zal l0_1 x8_3).f0))) < (wrap64 ((wrap64 ((zal l0_1 x10_4).f0)) + t283))) = true := decide_eq_true c60; clear c60
                  replace H := Option.bind_eq_some_iff.mp H
                  obtain ⟨t284, A610, H⟩ := H; replace H : (if (wrap64 ((zal l0_1 x10_4).f0)) < (wrap64 ((wrap64 (((zal l0_1 x8_3).f0))) + t284)) then (some 1) else (tinctureref7_GoodImage.l2 k4 x7_3 x8_3 (wrap64 (x10_4 + 1)) a0_0 l0_1 ((zal l0_1 x8_3).f0) ((zal l0_1 x8_3).f1) ((zal l0_1 x8_3).f2) ((zal l0_1 x8_3).f3))) = some r := H; have A61 := Aside0.mk A610; clear A610
                  by_cases c62 : (wrap64 ((zal l0_1 x10_4).f0)) < (wrap64 ((wrap64 (((zal l0_1 x8_3).f0))) + t284))
                  · rw [if_pos c62] at H
                    have c62b0 : decide ((wrap64 ((zal l0_1 x10_4).f0)) < (wrap64 ((wrap64 (((zal l0_1 x8_3).f0))) + t284))) = true := decide_eq_true c62; clear c62; obtain rfl := Option.some.inj H; have hnb63 := NB276_280.out; have hnc63 := NB280_276.out; have hcz64_0 : wr.cell? ⟨gb276, 0, none⟩ = some (.int .u32 a0_0) := (zai BK276.out 0).trans rfl; have hcz64_1 : wr.cell? ⟨gb276, 1, none⟩ = some (.slice (some ad279) l0_1.length c0_1) := (zai BK276.out 1).trans rfl; have hfz64_0 := zah BK276.out 0; have hfz64_1 := zah BK276.out 1; have p281 : 0 ≤ (x10_4 : Int) := of_decide_eq_true (by assumption); have q281 : x10_4 < (l0_1.length : Int) := of_decide_eq_true (by assumption); obtain ⟨ad281, A281_3, c281_3, e281, hx281_0, hx281_1, hx281_2, hx281_3, hl281_3, hi281_3⟩ := zc6 HR0_1.out x10_4 p281 q281; obtain rfl : ad279 = ad281 := (by injection e281)
                    replace hx281_0 := (HB.out.cell (World.block_lt_of_cell? w _ hx281_0)).trans hx281_0
                    replace hx281_1 := (HB.out.cell (World.block_lt_of_cell? w _ hx281_1)).trans hx281_1
                    replace hx281_2 := (HB.out.cell (World.block_lt_of_cell? w _ hx281_2)).trans hx281_2
                    replace hx281_3 := (HB.out.cell (World.block_lt_of_cell? w _ hx281_3)).trans hx281_3
                    have HR281_3 := Aside0.mk hi281_3; have HC281_3 := Aside0.mk hl281_3; clear hi281_3 hl281_3
                    replace p281 := eq_true p281
                    replace q281 := eq_true q281
                    go_wp2_with (first | ((with_reducible refine zax (N := 11) rfl ?_); (try (refine za6 (by rfl) ?_; dsimp only)); refine zau ?hg (N := 11) ?hd (cs := #[.int .u32 0, .int .u32 0, .int .i64 0, .slice none 0 0]) (t := 65) ?hr ?_; (case hd => rfl); (case hg => rfl); (case hr => first | (go_simp; done) | (go_simp; rfl)); intro gb282 hg w65 hbox hb; have n0_ := Aside0.mk (zaq (g := gb276) (o := .cells #[.int .u32 a0_0, .slice (some ad279) l0_1.length c0_1] 40 (0, 0)) (by (with_reducible repeat (first | refine zae ?_ _ | refine zaj ?_ | refine zad ?_ _)); exact BK276.out) hb); have n1_ := Aside0.mk (zaq (g := gb280) (o := .cells #[.int .u32 ((zal l0_1 x8_3).f0), .int .u32 ((zal l0_1 x8_3).f1), .int .i64 ((zal l0_1 x8_3).f2), .slice A279_3 ((zal l0_1 x8_3).f3).length c279_3] 65 (0, 0)) (by (with_reducible repeat (first | refine zae ?_ _ | refine zaj ?_ | refine zad ?_ _)); exact BK280.out) hb); have n2_ := Aside0.mk (zam (by with_reducible repeat (first | exact HB.out | apply zab | apply zaa | apply zac | refine zaf ?_ GE276.out | refine zaf ?_ GE280.out)) hb); have n3_ := Aside0.mk (hbox); have n4_ := Aside0.mk ((by rw [hg]; exact (zak (by with_reducible repeat (first | exact HB.out | apply zab | apply zaa | apply zac | refine zaf ?_ GE276.out | refine zaf ?_ GE280.out))) : w.heap.size ≤ gb282)); have n5_ := Aside0.mk ((by rw [hg]; exact (zak (by with_reducible repeat (first | exact HB.out | apply zab | apply zaa | apply zac | refine zaf ?_ GE276.out | refine zaf ?_ GE280.out))) : w.heap.size ≤ gb282)); have n6_ := Aside0.mk ((by rw [hg]; exact Nat.ne_of_lt (za3 (g := gb276) (o := .cells #[.int .u32 a0_0, .slice (some ad279) l0_1.length c0_1] 40 (0, 0)) (by (with_reducible repeat (first | refine zae ?_ _ | refine zaj ?_ | refine zad ?_ _)); exact BK276.out)) : gb276 ≠ gb282)); have n7_ := Aside0.mk ((by rw [hg]; exact Nat.ne_of_gt (za3 (g := gb276) (o := .cells #[.int .u32 a0_0, .slice (some ad279) l0_1.length c0_1] 40 (0, 0)) (by (with_reducible repeat (first | refine zae ?_ _ | refine zaj ?_ | refine zad ?_ _)); exact BK276.out)) : gb282 ≠ gb276)); have n8_ := Aside0.mk ((by rw [hg]; exact Nat.ne_of_lt (za3 (g := gb280) (o := .cells #[.int .u32 ((zal l0_1 x8_3).f0), .int .u32 ((zal l0_1 x8_3).f1), .int .i64 ((zal l0_1 x8_3).f2), .slice A279_3 ((zal l0_1 x8_3).f3).length c279_3] 65 (0, 0)) (by (with_reducible repeat (first | refine zae ?_ _ | refine zaj ?_ | refine zad ?_ _)); exact BK280.out)) : gb280 ≠ gb282)); have n9_ := Aside0.mk ((by rw [hg]; exact Nat.ne_of_gt (za3 (g := gb280) (o := .cells #[.int .u32 ((zal l0_1 x8_3).f0), .int .u32 ((zal l0_1 x8_3).f1), .int .i64 ((zal l0_1 x8_3).f2), .slice A279_3 ((zal l0_1 x8_3).f3).length c279_3] 65 (0, 0)) (by (with_reducible repeat (first | refine zae ?_ _ | refine zaj ?_ | refine zad ?_ _)); exact BK280.out)) : gb282 ≠ gb280)); clear BK276; clear BK280; clear HB; have BK276 := n0_; have BK280 := n1_; have HB := n2_; have BK282 := n3_; have GW282 := n4_; have GE282 := n5_; have NB276_282 := n6_; have NB282_276 := n7_; have NB280_282 := n8_; have NB282_280 := n9_; clear n0_ n1_ n2_ n3_ n4_ n5_ n6_ n7_ n8_ n9_; clear hb hbox hg; have hnb66 := NB282_276.out; have hnc66 := NB276_282.out; have hnb67 := NB282_280.out; have hnc67 := NB280_282.out; have hcz68_0 : w65.cell? ⟨gb282, 0, none⟩ = some (.int .u32 0) := (zai BK282.out 0).trans rfl; have hcz68_1 : w65.cell? ⟨gb282, 1, none⟩ = some (.int .u32 0) := (zai BK282.out 1).trans rfl; have hcz68_2 : w65.cell? ⟨gb282, 2, none⟩ = some (.int .i64 0) := (zai BK282.out 2).trans rfl; have hcz68_3 : w65.cell? ⟨gb282, 3, none⟩ = some (.slice none 0 0) := (zai BK282.out 3).trans rfl; have hfz68_0 := zah BK282.out 0; have hfz68_1 := zah BK282.out 1; have hfz68_2 := zah BK282.out 2; have hfz68_3 := zah BK282.out 3; have hcz69_0 : w65.cell? ⟨gb280, 0, none⟩ = some (.int .u32 ((zal l0_1 x8_3).f0)) := (zai BK280.out 0).trans rfl; have hcz69_1 : w65.cell? ⟨gb280, 1, none⟩ = some (.int .u32 ((zal l0_1 x8_3).f1)) := (zai BK280.out 1).trans rfl; have hcz69_2 : w65.cell? ⟨gb280, 2, none⟩ = some (.int .i64 ((zal l0_1 x8_3).f2)) := (zai BK280.out 2).trans rfl; have hcz69_3 : w65.cell? ⟨gb280, 3, none⟩ = some (.slice A279_3 ((zal l0_1 x8_3).f3).length c279_3) := (zai BK280.out 3).trans rfl; have hfz69_0 := zah BK280.out 0; have hfz69_1 := zah BK280.out 1; have hfz69_2 := zah BK280.out 2; have hfz69_3 := zah BK280.out 3) | (go_at_call 32; (with_reducible refine (tinctureref7_up.calls (wrap64 ((zal l0_1 x10_4).f1)) t283 _ A59.out).mono ?_); rintro e w' ⟨rfl, ⟨nd, rfl⟩⟩; (try first | exact ⟨rfl, _, World.drewN_drewN _ _ _⟩ | exact ⟨rfl, _, Eq.trans (World.drewN_drewN _ _ _) (congrArg (World.drewN _) (Nat.add_assoc _ _ _))⟩)) | (go_at_call 32; (with_reducible refine (tinctureref7_up.calls (wrap64 (((zal l0_1 x8_3).f1))) t284 _ A61.out).mono ?_); rintro e w' ⟨rfl, ⟨nd, rfl⟩⟩; (try first | exact ⟨rfl, _, World.drewN_drewN _ _ _⟩ | exact ⟨rfl, _, Eq.trans (World.drewN_drewN _ _ _) (congrArg (World.drewN _) (Nat.add_assoc _ _ _))⟩)))
                    repeat (go_quiet (first | ((with_reducible refine zax (N := 11) rfl ?_); (try (refine za6 (by rfl) ?_; dsimp only)); refine zau ?hg (N := 11) ?hd (cs := #[.int .u32 0, .int .u32 0, .int .i64 0, .slice none 0 0]) (t := 65) ?hr ?_; (case hd => rfl); (case hg => rfl); (case hr => first | (go_simp; done) | (go_simp; rfl)); intro gb282 hg w65 hbox hb; have n0_ := Aside0.mk (zaq (g := gb276) (o := .cells #[.int .u32 a0_0, .slice (some ad279) l0_1.length c0_1] 40 (0, 0)) (by (with_reducible repeat (first | refine zae ?_ _ | refine zaj ?_ | refine zad ?_ _)); exact BK276.out) hb); have n1_ := Aside0.mk (zaq (g := gb280) (o := .cells #[.int .u32 ((zal l0_1 x8_3).f0), .int .u32 ((zal l0_1 x8_3).f1), .int .i64 ((zal l0_1 x8_3).f2), .slice A279_3 ((zal l0_1 x8_3).f3).length c279_3] 65 (0, 0)) (by (with_reducible repeat (first | refine zae ?_ _ | refine zaj ?_ | refine zad ?_ _)); exact BK280.out) hb); have n2_ := Aside0.mk (zam (by with_reducible repeat (first | exact HB.out | apply zab | apply zaa | apply zac | refine zaf ?_ GE276.out | refine zaf ?_ GE280.out)) hb); have n3_ := Aside0.mk (hbox); have n4_ := Aside0.mk ((by rw [hg]; exact (zak (by with_reducible repeat (first | exact HB.out | apply zab | apply zaa | apply zac | refine zaf ?_ GE276.out | refine zaf ?_ GE280.out))) : w.heap.size ≤ gb282)); have n5_ := Aside0.mk ((by rw [hg]; exact (zak (by with_reducible repeat (first | exact HB.out | apply zab | apply zaa | apply zac | refine zaf ?_ GE276.out | refine zaf ?_ GE280.out))) : w.heap.size ≤ gb282)); have n6_ := Aside0.mk ((by rw [hg]; exact Nat.ne_of_lt (za3 (g := gb276) (o := .cells #[.int .u32 a0_0, .slice (some ad279) l0_1.length c0_1] 40 (0, 0)) (by (with_reducible repeat (first | refine zae ?_ _ | refine zaj ?_ | refine zad ?_ _)); exact BK276.out)) : gb276 ≠ gb282)); have n7_ := Aside0.mk ((by rw [hg]; exact Nat.ne_of_gt (za3 (g := gb276) (o := .cells #[.int .u32 a0_0, .slice (some ad279) l0_1.length c0_1] 40 (0, 0)) (by (with_reducible repeat (first | refine zae ?_ _ | refine zaj ?_ | refine zad ?_ _)); exact BK276.out)) : gb282 ≠ gb276)); have n8_ := Aside0.mk ((by rw [hg]; exact Nat.ne_of_lt (za3 (g := gb280) (o := .cells #[.int .u32 ((zal l0_1 x8_3).f0), .int .u32 ((zal l0_1 x8_3).f1), .int .i64 ((zal l0_1 x8_3).f2), .slice A279_3 ((zal l0_1 x8_3).f3).length c279_3] 65 (0, 0)) (by (with_reducible repeat (first | refine zae ?_ _ | refine zaj ?_ | refine zad ?_ _)); exact BK280.out)) : gb280 ≠ gb282)); have n9_ := Aside0.mk ((by rw [hg]; exact Nat.ne_of_gt (za3 (g := gb280) (o := .cells #[.int .u32 ((zal l0_1 x8_3).f0), .int .u32 ((zal l0_1 x8_3).f1), .int .i64 ((zal l0_1 x8_3).f2), .slice A279_3 ((zal l0_1 x8_3).f3).length c279_3] 65 (0, 0)) (by (with_reducible repeat (first | refine zae ?_ _ | refine zaj ?_ | refine zad ?_ _)); exact BK280.out)) : gb282 ≠ gb280)); clear BK276; clear BK280; clear HB; have BK276 := n0_; have BK280 := n1_; have HB := n2_; have BK282 := n3_; have GW282 := n4_; have GE282 := n5_; have NB276_282 := n6_; have NB282_276 := n7_; have NB280_282 := n8_; have NB282_280 := n9_; clear n0_ n1_ n2_ n3_ n4_ n5_ n6_ n7_ n8_ n9_; clear hb hbox hg; have hnb66 := NB282_276.out; have hnc66 := NB276_282.out; have hnb67 := NB282_280.out; have hnc67 := NB280_282.out; have hcz68_0 : w65.cell? ⟨gb282, 0, none⟩ = some (.int .u32 0) := (zai BK282.out 0).trans rfl; have hcz68_1 : w65.cell? ⟨gb282, 1, none⟩ = some (.int .u32 0) := (zai BK282.out 1).trans rfl; have hcz68_2 : w65.cell? ⟨gb282, 2, none⟩ = some (.int .i64 0) := (zai BK282.out 2).trans rfl; have hcz68_3 : w65.cell? ⟨gb282, 3, none⟩ = some (.slice none 0 0) := (zai BK282.out 3).trans rfl; have hfz68_0 := zah BK282.out 0; have hfz68_1 := zah BK282.out 1; have hfz68_2 := zah BK282.out 2; have hfz68_3 := zah BK282.out 3; have hcz69_0 : w65.cell? ⟨gb280, 0, none⟩ = some (.int .u32 ((zal l0_1 x8_3).f0)) := (zai BK280.out 0).trans rfl; have hcz69_1 : w65.cell? ⟨gb280, 1, none⟩ = some (.int .u32 ((zal l0_1 x8_3).f1)) := (zai BK280.out 1).trans rfl; have hcz69_2 : w65.cell? ⟨gb280, 2, none⟩ = some (.int .i64 ((zal l0_1 x8_3).f2)) := (zai BK280.out 2).trans rfl; have hcz69_3 : w65.cell? ⟨gb280, 3, none⟩ = some (.slice A279_3 ((zal l0_1 x8_3).f3).length c279_3) := (zai BK280.out 3).trans rfl; have hfz69_0 := zah BK280.out 0; have hfz69_1 := zah BK280.out 1; have hfz69_2 := zah BK280.out 2; have hfz69_3 := zah BK280.out 3) | (go_at_call 32; (with_reducible refine (tinctureref7_up.calls (wrap64 ((zal l0_1 x10_4).f1)) t283 _ A59.out).mono ?_); rintro e w' ⟨rfl, ⟨nd, rfl⟩⟩; (try first | exact ⟨rfl, _, World.drewN_drewN _ _ _⟩ | exact ⟨rfl, _, Eq.trans (World.drewN_drewN _ _ _) (congrArg (World.drewN _) (Nat.add_assoc _ _ _))⟩)) | (go_at_call 32; (with_reducible refine (tinctureref7_up.calls (wrap64 (((zal l0_1 x8_3).f1))) t284 _ A61.out).mono ?_); rintro e w' ⟨rfl, ⟨nd, rfl⟩⟩; (try first | exact ⟨rfl, _, World.drewN_drewN _ _ _⟩ | exact ⟨rfl, _, Eq.trans (World.drewN_drewN _ _ _) (congrArg (World.drewN _) (Nat.add_assoc _ _ _))⟩))); try go_wp2_with (first | ((with_reducible refine zax (N := 11) rfl ?_); (try (refine za6 (by rfl) ?_; dsimp only)); refine zau ?hg (N := 11) ?hd (cs := #[.int .u32 0, .int .u32 0, .int .i64 0, .slice none 0 0]) (t := 65) ?hr ?_; (case hd => rfl); (case hg => rfl); (case hr => first | (go_simp; done) | (go_simp; rfl)); intro gb282 hg w65 hbox hb; have n0_ := Aside0.mk (zaq (g := gb276) (o := .cells #[.int .u32 a0_0, .slice (some ad279) l0_1.length c0_1] 40 (0, 0)) (by (with_reducible repeat (first | refine zae ?_ _ | refine zaj ?_ | refine zad ?_ _)); exact BK276.out) hb); have n1_ := Aside0.mk (zaq (g := gb280) (o := .cells #[.int .u32 ((zal l0_1 x8_3).f0), .int .u32 ((zal l0_1 x8_3).f1), .int .i64 ((zal l0_1 x8_3).f2), .slice A279_3 ((zal l0_1 x8_3).f3).length c279_3] 65 (0, 0)) (by (with_reducible repeat (first | refine zae ?_ _ | refine zaj ?_ | refine zad ?_ _)); exact BK280.out) hb); have n2_ := Aside0.mk (zam (by with_reducible repeat (first | exact HB.out | apply zab | apply zaa | apply zac | refine zaf ?_ GE276.out | refine zaf ?_ GE280.out)) hb); have n3_ := Aside0.mk (hbox); have n4_ := Aside0.mk ((by rw [hg]; exact (zak (by with_reducible repeat (first | exact HB.out | apply zab | apply zaa | apply zac | refine zaf ?_ GE276.out | refine zaf ?_ GE280.out))) : w.heap.size ≤ gb282)); have n5_ := Aside0.mk ((by rw [hg]; exact (zak (by with_reducible repeat (first | exact HB.out | apply zab | apply zaa | apply zac | refine zaf ?_ GE276.out | refine zaf ?_ GE280.out))) : w.heap.size ≤ gb282)); have n6_ := Aside0.mk ((by rw [hg]; exact Nat.ne_of_lt (za3 (g := gb276) (o := .cells #[.int .u32 a0_0, .slice (some ad279) l0_1.length c0_1] 40 (0, 0)) (by (with_reducible repeat (first | refine zae ?_ _ | refine zaj ?_ | refine zad ?_ _)); exact BK276.out)) : gb276 ≠ gb282)); have n7_ := Aside0.mk ((by rw [hg]; exact Nat.ne_of_gt (za3 (g := gb276) (o := .cells #[.int .u32 a0_0, .slice (some ad279) l0_1.length c0_1] 40 (0, 0)) (by (with_reducible repeat (first | refine zae ?_ _ | refine zaj ?_ | refine zad ?_ _)); exact BK276.out)) : gb282 ≠ gb276)); have n8_ := Aside0.mk ((by rw [hg]; exact Nat.ne_of_lt (za3 (g := gb280) (o := .cells #[.int .u32 ((zal l0_1 x8_3).f0), .int .u32 ((zal l0_1 x8_3).f1), .int .i64 ((zal l0_1 x8_3).f2), .slice A279_3 ((zal l0_1 x8_3).f3).length c279_3] 65 (0, 0)) (by (with_reducible repeat (first | refine zae ?_ _ | refine zaj ?_ | refine zad ?_ _)); exact BK280.out)) : gb280 ≠ gb282)); have n9_ := Aside0.mk ((by rw [hg]; exact Nat.ne_of_gt (za3 (g := gb280) (o := .cells #[.int .u32 ((zal l0_1 x8_3).f0), .int .u32 ((zal l0_1 x8_3).f1), .int .i64 ((zal l0_1 x8_3).f2), .slice A279_3 ((zal l0_1 x8_3).f3).length c279_3] 65 (0, 0)) (by (with_reducible repeat (first | refine zae ?_ _ | refine zaj ?_ | refine zad ?_ _)); exact BK280.out)) : gb282 ≠ gb280)); clear BK276; clear BK280; clear HB; have BK276 := n0_; have BK280 := n1_; have HB := n2_; have BK282 := n3_; have GW282 := n4_; have GE282 := n5_; have NB276_282 := n6_; have NB282_276 := n7_; have NB280_282 := n8_; have NB282_280 := n9_; clear n0_ n1_ n2_ n3_ n4_ n5_ n6_ n7_ n8_ n9_; clear hb hbox hg; have hnb66 := NB282_276.out; have hnc66 := NB276_282.out; have hnb67 := NB282_280.out; have hnc67 := NB280_282.out; have hcz68_0 : w65.cell? ⟨gb282, 0, none⟩ = some (.int .u32 0) := (zai BK282.out 0).trans rfl; have hcz68_1 : w65.cell? ⟨gb282, 1, none⟩ = some (.int .u32 0) := (zai BK282.out 1).trans rfl; have hcz68_2 : w65.cell? ⟨gb282, 2, none⟩ = some (.int .i64 0) := (zai BK282.out 2).trans rfl; have hcz68_3 : w65.cell? ⟨gb282, 3, none⟩ = some (.slice none 0 0) := (zai BK282.out 3).trans rfl; have hfz68_0 := zah BK282.out 0; have hfz68_1 := zah BK282.out 1; have hfz68_2 := zah BK282.out 2; have hfz68_3 := zah BK282.out 3; have hcz69_0 : w65.cell? ⟨gb280, 0, none⟩ = some (.int .u32 ((zal l0_1 x8_3).f0)) := (zai BK280.out 0).trans rfl; have hcz69_1 : w65.cell? ⟨gb280, 1, none⟩ = some (.int .u32 ((zal l0_1 x8_3).f1)) := (zai BK280.out 1).trans rfl; have hcz69_2 : w65.cell? ⟨gb280, 2, none⟩ = some (.int .i64 ((zal l0_1 x8_3).f2)) := (zai BK280.out 2).trans rfl; have hcz69_3 : w65.cell? ⟨gb280, 3, none⟩ = some (.slice A279_3 ((zal l0_1 x8_3).f3).length c279_3) := (zai BK280.out 3).trans rfl; have hfz69_0 := zah BK280.out 0; have hfz69_1 := zah BK280.out 1; have hfz69_2 := zah BK280.out 2; have hfz69_3 := zah BK280.out 3) | (go_at_call 32; (with_reducible refine (tinctureref7_up.calls (wrap64 ((zal l0_1 x10_4).f1)) t283 _ A59.out).mono ?_); rintro e w' ⟨rfl, ⟨nd, rfl⟩⟩; (try first | exact ⟨rfl, _, World.drewN_drewN _ _ _⟩ | exact ⟨rfl, _, Eq.trans (World.drewN_drewN _ _ _) (congrArg (World.drewN _) (Nat.add_assoc _ _ _))⟩)) | (go_at_call 32; (with_reducible refine (tinctureref7_up.calls (wrap64 (((zal l0_1 x8_3).f1))) t284 _ A61.out).mono ?_); rintro e w' ⟨rfl, ⟨nd, rfl⟩⟩; (try first | exact ⟨rfl, _, World.drewN_drewN _ _ _⟩ | exact ⟨rfl, _, Eq.trans (World.drewN_drewN _ _ _) (congrArg (World.drewN _) (Nat.add_assoc _ _ _))⟩))))
                    go_ret
                    exact ⟨by first | rfl | (simp [*]; done) | (simp [*, zaz, zay] <;> rfl), by repeat (first | (with_reducible first | exact HB.out | apply zab | apply zaa | apply zac | refine zaf ?_ GE276.out | refine zaf ?_ GE280.out | refine zaf ?_ GE282.out) | exact HB.out)⟩
                  rw [if_neg c62] at H; have c62b0 : decide ((wrap64 ((zal l0_1 x10_4).f0)) < (wrap64 ((wrap64 (((zal l0_1 x8_3).f0))) + t284))) = false := decide_eq_false c62; clear c62
                  have H' := Aside0.mk H
                  clear H; have hnb70 := NB276_280.out; have hnc70 := NB280_276.out; have hcz71_0 : wr.cell? ⟨gb276, 0, none⟩ = some (.int .u32 a0_0) := (zai BK276.out 0).trans rfl; have hcz71_1 : wr.cell? ⟨gb276, 1, none⟩ = some (.slice (some ad279) l0_1.length c0_1) := (zai BK276.out 1).trans rfl; have hfz71_0 := zah BK276.out 0; have hfz71_1 := zah BK276.out 1; have p281 : 0 ≤ (x10_4 : Int) := of_decide_eq_true (by assumption); have q281 : x10_4 < (l0_1.length : Int) := of_decide_eq_true (by assumption); obtain ⟨ad281, A281_3, c281_3, e281, hx281_0, hx281_1, hx281_2, hx281_3, hl281_3, hi281_3⟩ := zc6 HR0_1.out x10_4 p281 q281; obtain rfl : ad279 = ad281 := (by injection e281)
                  replace hx281_0 := (HB.out.cell (World.block_lt_of_cell? w _ hx281_0)).trans hx281_0
                  replace hx281_1 := (HB.out.cell (World.block_lt_of_cell? w _ hx281_1)).trans hx281_1
                  replace hx281_2 := (HB.out.cell (World.block_lt_of_cell? w _ hx281_2)).trans hx281_2
                  replace hx281_3 := (HB.out.cell (World.block_lt_of_cell? w _ hx281_3)).trans hx281_3
                  have HR281_3 := Aside0.mk hi281_3; have HC281_3 := Aside0.mk hl281_3; clear hi281_3 hl281_3
                  replace p281 := eq_true p281
                  replace q281 := eq_true q281
                  go_wp2_with (first | ((with_reducible refine zax (N := 11) rfl ?_); (try (refine za6 (by rfl) ?_; dsimp only)); refine zau ?hg (N := 11) ?hd (cs := #[.int .u32 0, .int .u32 0, .int .i64 0, .slice none 0 0]) (t := 65) ?hr ?_; (case hd => rfl); (case hg => rfl); (case hr => first | (go_simp; done) | (go_simp; rfl)); intro gb282 hg w72 hbox hb; have n0_ := Aside0.mk (zaq (g := gb276) (o := .cells #[.int .u32 a0_0, .slice (some ad279) l0_1.length c0_1] 40 (0, 0)) (by (with_reducible repeat (first | refine zae ?_ _ | refine zaj ?_ | refine zad ?_ _)); exact BK276.out) hb); have n1_ := Aside0.mk (zaq (g := gb280) (o := .cells #[.int .u32 ((zal l0_1 x8_3).f0), .int .u32 ((zal l0_1 x8_3).f1), .int .i64 ((zal l0_1 x8_3).f2), .slice A279_3 ((zal l0_1 x8_3).f3).length c279_3] 65 (0, 0)) (by (with_reducible repeat (first | refine zae ?_ _ | refine zaj ?_ | refine zad ?_ _)); exact BK280.out) hb); have n2_ := Aside0.mk (zam (by with_reducible repeat (first | exact HB.out | apply zab | apply zaa | apply zac | refine zaf ?_ GE276.out | refine zaf ?_ GE280.out)) hb); have n3_ := Aside0.mk (hbox); have n4_ := Aside0.mk ((by rw [hg]; exact (zak (by with_reducible repeat (first | exact HB.out | apply zab | apply zaa | apply zac | refine zaf ?_ GE276.out | refine zaf ?_ GE280.out))) : w.heap.size ≤ gb282)); have n5_ := Aside0.mk ((by rw [hg]; exact (zak (by with_reducible repeat (first | exact HB.out | apply zab | apply zaa | apply zac | refine zaf ?_ GE276.out | refine zaf ?_ GE280.out))) : w.heap.size ≤ gb282)); have n6_ := Aside0.mk ((by rw [hg]; exact Nat.ne_of_lt (za3 (g := gb276) (o := .cells #[.int .u32 a0_0, .slice (some ad279) l0_1.length c0_1] 40 (0, 0)) (by (with_reducible repeat (first | refine zae ?_ _ | refine zaj ?_ | refine zad ?_ _)); exact BK276.out)) : gb276 ≠ gb282)); have n7_ := Aside0.mk ((by rw [hg]; exact Nat.ne_of_gt (za3 (g := gb276) (o := .cells #[.int .u32 a0_0, .slice (some ad279) l0_1.length c0_1] 40 (0, 0)) (by (with_reducible repeat (first | refine zae ?_ _ | refine zaj ?_ | refine zad ?_ _)); exact BK276.out)) : gb282 ≠ gb276)); have n8_ := Aside0.mk ((by rw [hg]; exact Nat.ne_of_lt (za3 (g := gb280) (o := .cells #[.int .u32 ((zal l0_1 x8_3).f0), .int .u32 ((zal l0_1 x8_3).f1), .int .i64 ((zal l0_1 x8_3).f2), .slice A279_3 ((zal l0_1 x8_3).f3).length c279_3] 65 (0, 0)) (by (with_reducible repeat (first | refine zae ?_ _ | refine zaj ?_ | refine zad ?_ _)); exact BK280.out)) : gb280 ≠ gb282)); have n9_ := Aside0.mk ((by rw [hg]; exact Nat.ne_of_gt (za3 (g := gb280) (o := .cells #[.int .u32 ((zal l0_1 x8_3).f0), .int .u32 ((zal l0_1 x8_3).f1), .int .i64 ((zal l0_1 x8_3).f2), .slice A279_3 ((zal l0_1 x8_3).f3).length c279_3] 65 (0, 0)) (by (with_reducible repeat (first | refine zae ?_ _ | refine zaj ?_ | refine zad ?_ _)); exact BK280.out)) : gb282 ≠ gb280)); clear BK276; clear BK280; clear HB; have BK276 := n0_; have BK280 := n1_; have HB := n2_; have BK282 := n3_; have GW282 := n4_; have GE282 := n5_; have NB276_282 := n6_; have NB282_276 := n7_; have NB280_282 := n8_; have NB282_280 := n9_; clear n0_ n1_ n2_ n3_ n4_ n5_ n6_ n7_ n8_ n9_; clear hb hbox hg; have hnb73 := NB282_276.out; have hnc73 := NB276_282.out; have hnb74 := NB282_280.out; have hnc74 := NB280_282.out; have hcz75_0 : w72.cell? ⟨gb282, 0, none⟩ = some (.int .u32 0) := (zai BK282.out 0).trans rfl; have hcz75_1 : w72.cell? ⟨gb282, 1, none⟩ = some (.int .u32 0) := (zai BK282.out 1).trans rfl; have hcz75_2 : w72.cell? ⟨gb282, 2, none⟩ = some (.int .i64 0) := (zai BK282.out 2).trans rfl; have hcz75_3 : w72.cell? ⟨gb282, 3, none⟩ = some (.slice none 0 0) := (zai BK282.out 3).trans rfl; have hfz75_0 := zah BK282.out 0; have hfz75_1 := zah BK282.out 1; have hfz75_2 := zah BK282.out 2; have hfz75_3 := zah BK282.out 3; have hcz76_0 : w72.cell? ⟨gb280, 0, none⟩ = some (.int .u32 ((zal l0_1 x8_3).f0)) := (zai BK280.out 0).trans rfl; have hcz76_1 : w72.cell? ⟨gb280, 1, none⟩ = some (.int .u32 ((zal l0_1 x8_3).f1)) := (zai BK280.out 1).trans rfl; have hcz76_2 : w72.cell? ⟨gb280, 2, none⟩ = some (.int .i64 ((zal l0_1 x8_3).f2)) := (zai BK280.out 2).trans rfl; have hcz76_3 : w72.cell? ⟨gb280, 3, none⟩ = some (.slice A279_3 ((zal l0_1 x8_3).f3).length c279_3) := (zai BK280.out 3).trans rfl; have hfz76_0 := zah BK280.out 0; have hfz76_1 := zah BK280.out 1; have hfz76_2 := zah BK280.out 2; have hfz76_3 := zah BK280.out 3) | (go_at_call 32; (with_reducible refine (tinctureref7_up.calls (wrap64 ((zal l0_1 x10_4).f1)) t283 _ A59.out).mono ?_); rintro e w' ⟨rfl, ⟨nd, rfl⟩⟩; (try first | exact ⟨rfl, _, World.drewN_drewN _ _ _⟩ | exact ⟨rfl, _, Eq.trans (World.drewN_drewN _ _ _) (congrArg (World.drewN _) (Nat.add_assoc _ _ _))⟩)) | (go_at_call 32; (with_reducible refine (tinctureref7_up.calls (wrap64 (((zal l0_1 x8_3).f1))) t284 _ A61.out).mono ?_); rintro e w' ⟨rfl, ⟨nd, rfl⟩⟩; (try first | exact ⟨rfl, _, World.drewN_drewN _ _ _⟩ | exact ⟨rfl, _, Eq.trans (World.drewN_drewN _ _ _) (congrArg (World.drewN _) (Nat.add_assoc _ _ _))⟩)))
                  repeat (go_quiet (first | ((with_reducible refine zax (N := 11) rfl ?_); (try (refine za6 (by rfl) ?_; dsimp only)); refine zau ?hg (N := 11) ?hd (cs := #[.int .u32 0, .int .u32 0, .int .i64 0, .slice none 0 0]) (t := 65) ?hr ?_; (case hd => rfl); (case hg => rfl); (case hr => first | (go_simp; done) | (go_simp; rfl)); intro gb282 hg w72 hbox hb; have n0_ := Aside0.mk (zaq (g := gb276) (o := .cells #[.int .u32 a0_0, .slice (some ad279) l0_1.length c0_1] 40 (0, 0)) (by (with_reducible repeat (first | refine zae ?_ _ | refine zaj ?_ | refine zad ?_ _)); exact BK276.out) hb); have n1_ := Aside0.mk (zaq (g := gb280) (o := .cells #[.int .u32 ((zal l0_1 x8_3).f0), .int .u32 ((zal l0_1 x8_3).f1), .int .i64 ((zal l0_1 x8_3).f2), .slice A279_3 ((zal l0_1 x8_3).f3).length c279_3] 65 (0, 0)) (by (with_reducible repeat (first | refine zae ?_ _ | refine zaj ?_ | refine zad ?_ _)); exact BK280.out) hb); have n2_ := Aside0.mk (zam (by with_reducible repeat (first | exact HB.out | apply zab | apply zaa | apply zac | refine zaf ?_ GE276.out | refine zaf ?_ GE280.out)) hb); have n3_ := Aside0.mk (hbox); have n4_ := Aside0.mk ((by rw [hg]; exact (zak (by with_reducible repeat (first | exact HB.out | apply zab | apply zaa | apply zac | refine zaf ?_ GE276.out | refine zaf ?_ GE280.out))) : w.heap.size ≤ gb282)); have n5_ := Aside0.mk ((by rw [hg]; exact (zak (by with_reducible repeat (first | exact HB.out | apply zab | apply zaa | apply zac | refine zaf ?_ GE276.out | refine zaf ?_ GE280.out))) : w.heap.size ≤ gb282)); have n6_ := Aside0.mk ((by rw [hg]; exact Nat.ne_of_lt (za3 (g := gb276) (o := .cells #[.int .u32 a0_0, .slice (some ad279) l0_1.length c0_1] 40 (0, 0)) (by (with_reducible repeat (first | refine zae ?_ _ | refine zaj ?_ | refine zad ?_ _)); exact BK276.out)) : gb276 ≠ gb282)); have n7_ := Aside0.mk ((by rw [hg]; exact Nat.ne_of_gt (za3 (g := gb276) (o := .cells #[.int .u32 a0_0, .slice (some ad279) l0_1.length c0_1] 40 (0, 0)) (by (with_reducible repeat (first | refine zae ?_ _ | refine zaj ?_ | refine zad ?_ _)); exact BK276.out)) : gb282 ≠ gb276)); have n8_ := Aside0.mk ((by rw [hg]; exact Nat.ne_of_lt (za3 (g := gb280) (o := .cells #[.int .u32 ((zal l0_1 x8_3).f0), .int .u32 ((zal l0_1 x8_3).f1), .int .i64 ((zal l0_1 x8_3).f2), .slice A279_3 ((zal l0_1 x8_3).f3).length c279_3] 65 (0, 0)) (by (with_reducible repeat (first | refine zae ?_ _ | refine zaj ?_ | refine zad ?_ _)); exact BK280.out)) : gb280 ≠ gb282)); have n9_ := Aside0.mk ((by rw [hg]; exact Nat.ne_of_gt (za3 (g := gb280) (o := .cells #[.int .u32 ((zal l0_1 x8_3).f0), .int .u32 ((zal l0_1 x8_3).f1), .int .i64 ((zal l0_1 x8_3).f2), .slice A279_3 ((zal l0_1 x8_3).f3).length c279_3] 65 (0, 0)) (by (with_reducible repeat (first | refine zae ?_ _ | refine zaj ?_ | refine zad ?_ _)); exact BK280.out)) : gb282 ≠ gb280)); clear BK276; clear BK280; clear HB; have BK276 := n0_; have BK280 := n1_; have HB := n2_; have BK282 := n3_; have GW282 := n4_; have GE282 := n5_; have NB276_282 := n6_; have NB282_276 := n7_; have NB280_282 := n8_; have NB282_280 := n9_; clear n0_ n1_ n2_ n3_ n4_ n5_ n6_ n7_ n8_ n9_; clear hb hbox hg; have hnb73 := NB282_276.out; have hnc73 := NB276_282.out; have hnb74 := NB282_280.out; have hnc74 := NB280_282.out; have hcz75_0 : w72.cell? ⟨gb282, 0, none⟩ = some (.int .u32 0) := (zai BK282.out 0).trans rfl; have hcz75_1 : w72.cell? ⟨gb282, 1, none⟩ = some (.int .u32 0) := (zai BK282.out 1).trans rfl; have hcz75_2 : w72.cell? ⟨gb282, 2, none⟩ = some (.int .i64 0) := (zai BK282.out 2).trans rfl; have hcz75_3 : w72.cell? ⟨gb282, 3, none⟩ = some (.slice none 0 0) := (zai BK282.out 3).trans rfl; have hfz75_0 := zah BK282.out 0; have hfz75_1 := zah BK282.out 1; have hfz75_2 := zah BK282.out 2; have hfz75_3 := zah BK282.out 3; have hcz76_0 : w72.cell? ⟨gb280, 0, none⟩ = some (.int .u32 ((zal l0_1 x8_3).f0)) := (zai BK280.out 0).trans rfl; have hcz76_1 : w72.cell? ⟨gb280, 1, none⟩ = some (.int .u32 ((zal l0_1 x8_3).f1)) := (zai BK280.out 1).trans rfl; have hcz76_2 : w72.cell? ⟨gb280, 2, none⟩ = some (.int .i64 ((zal l0_1 x8_3).f2)) := (zai BK280.out 2).trans rfl; have hcz76_3 : w72.cell? ⟨gb280, 3, none⟩ = some (.slice A279_3 ((zal l0_1 x8_3).f3).length c279_3) := (zai BK280.out 3).trans rfl; have hfz76_0 := zah BK280.out 0; have hfz76_1 := zah BK280.out 1; have hfz76_2 := zah BK280.out 2; have hfz76_3 := zah BK280.out 3) | (go_at_call 32; (with_reducible refine (tinctureref7_up.calls (wrap64 ((zal l0_1 x10_4).f1)) t283 _ A59.out).mono ?_); rintro e w' ⟨rfl, ⟨nd, rfl⟩⟩; (try first | exact ⟨rfl, _, World.drewN_drewN _ _ _⟩ | exact ⟨rfl, _, Eq.trans (World.drewN_drewN _ _ _) (congrArg (World.drewN _) (Nat.add_assoc _ _ _))⟩)) | (go_at_call 32; (with_reducible refine (tinctureref7_up.calls (wrap64 (((zal l0_1 x8_3).f1))) t284 _ A61.out).mono ?_); rintro e w' ⟨rfl, ⟨nd, rfl⟩⟩; (try first | exact ⟨rfl, _, World.drewN_drewN _ _ _⟩ | exact ⟨rfl, _, Eq.trans (World.drewN_drewN _ _ _) (congrArg (World.drewN _) (Nat.add_assoc _ _ _))⟩))); try go_wp2_with (first | ((with_reducible refine zax (N := 11) rfl ?_); (try (refine za6 (by rfl) ?_; dsimp only)); refine zau ?hg (N := 11) ?hd (cs := #[.int .u32 0, .int .u32 0, .int .i64 0, .slice none 0 0]) (t := 65) ?hr ?_; (case hd => rfl); (case hg => rfl); (case hr => first | (go_simp; done) | (go_simp; rfl)); intro gb282 hg w72 hbox hb; have n0_ := Aside0.mk (zaq (g := gb276) (o := .cells #[.int .u32 a0_0, .slice (some ad279) l0_1.length c0_1] 40 (0, 0)) (by (with_reducible repeat (first | refine zae ?_ _ | refine zaj ?_ | refine zad ?_ _)); exact BK276.out) hb); have n1_ := Aside0.mk (zaq (g := gb280) (o := .cells #[.int .u32 ((zal l0_1 x8_3).f0), .int .u32 ((zal l0_1 x8_3).f1), .int .i64 ((zal l0_1 x8_3).f2), .slice A279_3 ((zal l0_1 x8_3).f3).length c279_3] 65 (0, 0)) (by (with_reducible repeat (first | refine zae ?_ _ | refine zaj ?_ | refine zad ?_ _)); exact BK280.out) hb); have n2_ := Aside0.mk (zam (by with_reducible repeat (first | exact HB.out | apply zab | apply zaa | apply zac | refine zaf ?_ GE276.out | refine zaf ?_ GE280.out)) hb); have n3_ := Aside0.mk (hbox); have n4_ := Aside0.mk ((by rw [hg]; exact (zak (by with_reducible repeat (first | exact HB.out | apply zab | apply zaa | apply zac | refine zaf ?_ GE276.out | refine zaf ?_ GE280.out))) : w.heap.size ≤ gb282)); have n5_ := Aside0.mk ((by rw [hg]; exact (zak (by with_reducible repeat (first | exact HB.out | apply zab | apply zaa | apply zac | refine zaf ?_ GE276.out | refine zaf ?_ GE280.out))) : w.heap.size ≤ gb282)); have n6_ := Aside0.mk ((by rw [hg]; exact Nat.ne_of_lt (za3 (g := gb276) (o := .cells #[.int .u32 a0_0, .slice (some ad279) l0_1.length c0_1] 40 (0, 0)) (by (with_reducible repeat (first | refine zae ?_ _ | refine zaj ?_ | refine zad ?_ _)); exact BK276.out)) : gb276 ≠ gb282)); have n7_ := Aside0.mk ((by rw [hg]; exact Nat.ne_of_gt (za3 (g := gb276) (o := .cells #[.int .u32 a0_0, .slice (some ad279) l0_1.length c0_1] 40 (0, 0)) (by (with_reducible repeat (first | refine zae ?_ _ | refine zaj ?_ | refine zad ?_ _)); exact BK276.out)) : gb282 ≠ gb276)); have n8_ := Aside0.mk ((by rw [hg]; exact Nat.ne_of_lt (za3 (g := gb280) (o := .cells #[.int .u32 ((zal l0_1 x8_3).f0), .int .u32 ((zal l0_1 x8_3).f1), .int .i64 ((zal l0_1 x8_3).f2), .slice A279_3 ((zal l0_1 x8_3).f3).length c279_3] 65 (0, 0)) (by (with_reducible repeat (first | refine zae ?_ _ | refine zaj ?_ | refine zad ?_ _)); exact BK280.out)) : gb280 ≠ gb282)); have n9_ := Aside0.mk ((by rw [hg]; exact Nat.ne_of_gt (za3 (g := gb280) (o := .cells #[.int .u32 ((zal l0_1 x8_3).f0), .int .u32 ((zal l0_1 x8_3).f1), .int .i64 ((zal l0_1 x8_3).f2), .slice A279_3 ((zal l0_1 x8_3).f3).length c279_3] 65 (0, 0)) (by (with_reducible repeat (first | refine zae ?_ _ | refine zaj ?_ | refine zad ?_ _)); exact BK280.out)) : gb282 ≠ gb280)); clear BK276; clear BK280; clear HB; have BK276 := n0_; have BK280 := n1_; have HB := n2_; have BK282 := n3_; have GW282 := n4_; have GE282 := n5_; have NB276_282 := n6_; have NB282_276 := n7_; have NB280_282 := n8_; have NB282_280 := n9_; clear n0_ n1_ n2_ n3_ n4_ n5_ n6_ n7_ n8_ n9_; clear hb hbox hg; have hnb73 := NB282_276.out; have hnc73 := NB276_282.out; have hnb74 := NB282_280.out; have hnc74 := NB280_282.out; have hcz75_0 : w72.cell? ⟨gb282, 0, none⟩ = some (.int .u32 0) := (zai BK282.out 0).trans rfl; have hcz75_1 : w72.cell? ⟨gb282, 1, none⟩ = some (.int .u32 0) := (zai BK282.out 1).trans rfl; have hcz75_2 : w72.cell? ⟨gb282, 2, none⟩ = some (.int .i64 0) := (zai BK282.out 2).trans rfl; have hcz75_3 : w72.cell? ⟨gb282, 3, none⟩ = some (.slice none 0 0) := (zai BK282.out 3).trans rfl; have hfz75_0 := zah BK282.out 0; have hfz75_1 := zah BK282.out 1; have hfz75_2 := zah BK282.out 2; have hfz75_3 := zah BK282.out 3; have hcz76_0 : w72.cell? ⟨gb280, 0, none⟩ = some (.int .u32 ((zal l0_1 x8_3).f0)) := (zai BK280.out 0).trans rfl; have hcz76_1 : w72.cell? ⟨gb280, 1, none⟩ = some (.int .u32 ((zal l0_1 x8_3).f1)) := (zai BK280.out 1).trans rfl; have hcz76_2 : w72.cell? ⟨gb280, 2, none⟩ = some (.int .i64 ((zal l0_1 x8_3).f2)) := (zai BK280.out 2).trans rfl; have hcz76_3 : w72.cell? ⟨gb280, 3, none⟩ = some (.slice A279_3 ((zal l0_1 x8_3).f3).length c279_3) := (zai BK280.out 3).trans rfl; have hfz76_0 := zah BK280.out 0; have hfz76_1 := zah BK280.out 1; have hfz76_2 := zah BK280.out 2; have hfz76_3 := zah BK280.out 3) | (go_at_call 32; (with_reducible refine (tinctureref7_up.calls (wrap64 ((zal l0_1 x10_4).f1)) t283 _ A59.out).mono ?_); rintro e w' ⟨rfl, ⟨nd, rfl⟩⟩; (try first | exact ⟨rfl, _, World.drewN_drewN _ _ _⟩ | exact ⟨rfl, _, Eq.trans (World.drewN_drewN _ _ _) (congrArg (World.drewN _) (Nat.add_assoc _ _ _))⟩)) | (go_at_call 32; (with_reducible refine (tinctureref7_up.calls (wrap64 (((zal l0_1 x8_3).f1))) t284 _ A61.out).mono ?_); rintro e w' ⟨rfl, ⟨nd, rfl⟩⟩; (try first | exact ⟨rfl, _, World.drewN_drewN _ _ _⟩ | exact ⟨rfl, _, Eq.trans (World.drewN_drewN _ _ _) (congrArg (World.drewN _) (Nat.add_assoc _ _ _))⟩))))
                  go_roundg k4
                  case measure => have := HK1.out; have := HJ45.out; have := HK3.out; have := HK4.out; omega
                  case rel => exact ⟨(wrap64 (x10_4 + 1)), (by first | rfl | (simp; done) | (simp [*]; done)), H', ⟨by have := HK1.out; have := HJ45.out; have := HK3.out; have := HK4.out; omega⟩, ⟨by (with_reducible repeat (first | refine zae ?_ _ | refine zaj ?_ | refine zad ?_ _)); refine za4 ?_ NB276_282.out _; (with_reducible repeat (first | refine zae ?_ _ | refine zaj ?_ | refine zad ?_ _)); refine za4 ?_ NB276_282.out _; (with_reducible repeat (first | refine zae ?_ _ | refine zaj ?_ | refine zad ?_ _)); refine za4 ?_ NB276_282.out _; (with_reducible repeat (first | refine zae ?_ _ | refine zaj ?_ | refine zad ?_ _)); refine za4 ?_ NB276_282.out _; (with_reducible repeat (first | refine zae ?_ _ | refine zaj ?_ | refine zad ?_ _)); exact BK276.out⟩, ⟨by (with_reducible repeat (first | refine zae ?_ _ | refine zaj ?_ | refine zad ?_ _)); refine za4 ?_ NB280_282.out _; (with_reducible repeat (first | refine zae ?_ _ | refine zaj ?_ | refine zad ?_ _)); refine za4 ?_ NB280_282.out _; (with_reducible repeat (first | refine zae ?_ _ | refine zaj ?_ | refine zad ?_ _)); refine za4 ?_ NB280_282.out _; (with_reducible repeat (first | refine zae ?_ _ | refine zaj ?_ | refine zad ?_ _)); refine za4 ?_ NB280_282.out _; (with_reducible repeat (first | refine zae ?_ _ | refine zaj ?_ | refine zad ?_ _)); exact BK280.out⟩, ⟨by repeat (first | (with_reducible first | exact HB.out | apply zab | apply zaa | apply zac | refine zaf ?_ GE276.out | refine zaf ?_ GE280.out | refine zaf ?_ GE282.out) | exact HB.out)⟩⟩
end Go.Proofs.Ytcjaepmecihmlaa.Img
