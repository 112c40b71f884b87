/- Whether two images are one: the walk of the law's sameImage. -/
import Derived.Test.YtcjaepmecihmlaaI0
import Derived.WalkKit
import Derived.Outline
import Derived.Deep.RegionHeld3
import Derived.Deep.DrawnRows
import Derived.Lib.Bytes
namespace Go.Proofs.Ytcjaepmecihmlaa.Same
open Go Go.RowKit Go.Proofs.Ytcjaepmecihmlaa.Img Go.Proofs.YtcjaepmecihmlaaW.PrintWords Go.Proofs.YtcjaepmecihmlaaW.PrintLast Go.Proofs.YtcjaepmecihmlaaW.PrintMore
set_option linter.unusedVariables false
set_option linter.unusedSimpArgs false
attribute [local go_sem ↓] Go.wp_at_zero Go.wp_at_succ
def one (s t : S65) : Bool := s.f0 == t.f0 && (s.f1 == t.f1 && (s.f2 == t.f2 && (strOfNums s.f3).toList == (strOfNums t.f3).toList))
def sameB (e : Int) (xs : List S65) (f : Int) (ys : List S65) : Bool := e == f && (xs.length == ys.length && (xs.zip ys).all fun p => one p.1 p.2)
/-- A step of the comparison: on with what is alike so far, or false at once. -/
theorem zgz (xs ys : List S65) (n : Nat) (hx : xs.length = n) (hy : ys.length = n) (j : Int) (h0 : 0 ≤ j) (h1 : j < n) (h : ((xs.take j.toNat).zip (ys.take j.toNat)).all (fun p => one p.1 p.2) = true) :
    (one (zal xs j) (zal ys j) = true → ((xs.take (j + 1).toNat).zip (ys.take (j + 1).toNat)).all (fun p => one p.1 p.2) = true) ∧ (one (zal xs j) (zal ys j) = false → ((xs.zip ys).all fun p => one p.1 p.2) = false) := by
  have k1 : j.toNat < xs.length := by omega
  have k2 : j.toNat < ys.length := by omega
  have e1 : zal xs j = xs[j.toNat] := by simp [zal, k1]
  have e2 : zal ys j = ys[j.toNat] := by simp [zal, k2]
  rw [e1, e2]
  refine ⟨fun hq => ?_, fun hq => ?_⟩
  · have e3 : (j + 1).toNat = j.toNat + 1 := by omega
    rw [e3, List.take_succ_eq_append_getElem k1, List.take_succ_eq_append_getElem k2, List.zip_append (by simp; omega), List.all_append, h]
    simp [hq]
  · rw [List.all_eq_false]
    refine ⟨(xs[j.toNat], ys[j.toNat]), ?_, by simp [hq]⟩
    have : (xs.zip ys)[j.toNat]? = some (xs[j.toNat], ys[j.toNat]) := by rw [List.getElem?_zip_eq_some]; exact ⟨List.getElem?_eq_getElem k1, List.getElem?_eq_getElem k2⟩
    exact List.mem_of_getElem? this
set_option maxHeartbeats 4000000 in
set_option maxRecDepth 100000 in
theorem same_n (W : World) (n : Nat) (e : Int) (A : Option Addr) (c : Nat) (xs : List S65) (A' : Option Addr) (c' : Nat) (ys : List S65) (hx : xs.length = n) (hy : ys.length = n) (hr : Kd.C k65 W A n xs) (hc : n ≤ c) (hn : n ≤ 1000000) (hr' : Kd.C k65 W A' n ys) (hc' : n ≤ c') :
    Calls Try.prog 17 #[.agg #[.int .u32 e, .slice A n c], .agg #[.int .u32 e, .slice A' n c']] W fun x w' => x = .returned (.bool ((xs.zip ys).all fun p => one p.1 p.2)) ∧ Below W.heap.size W w' := by
  have hu40 := Try.underlying40; have hu65 := Try.underlying65; have hu38 := Try.underlying38; have R := Aside0.mk hr; have R' := Aside0.mk hr'; clear hr hr'; have hb0 := zab (zab (Below.refl W.heap.size W) (.cells #[.int .u32 e, .slice A n c] 40)) (.cells #[.int .u32 e, .slice A' n c'] 40); have g1 := zad (zc5 W (.cells #[.int .u32 e, .slice A n c] 40)) (.cells #[.int .u32 e, .slice A' n c'] 40); have g2 := zc5 (W.alloc (.cells #[.int .u32 e, .slice A n c] 40)) (.cells #[.int .u32 e, .slice A' n c'] 40); rw [show (W.alloc (.cells #[.int .u32 e, .slice A n c] 40)).heap.size = W.heap.size + 1 by simp] at g2; have HB := Aside0.mk hb0; have G1 := Aside0.mk g1; have G2 := Aside0.mk g2; have HX := Aside0.mk hx; have HY := Aside0.mk hy; clear hb0 g1 g2 hx hy
  go_enter Try.func17, Try.ntmps17
  go_wp2; generalize ((W.alloc (.cells #[.int .u32 e, .slice A n c] 40)).alloc (.cells #[.int .u32 e, .slice A' n c'] 40)) = w0 at *
  go_loopw [5] (fun i wr => ∃ j : Int, 0 ≤ j ∧ j ≤ n ∧ i = .int .i64 j ∧ Aside0 (Below w0.heap.size w0 wr ∧ ((xs.take j.toNat).zip (ys.take j.toNat)).all (fun p => one p.1 p.2) = true)) (fun i _ => (n - intOf i).toNat)
  case atStart => exact ⟨0, by omega, by omega, rfl, ⟨Below.refl _ _, by simp⟩⟩
  case round =>
    obtain ⟨j, hj0, hj, rfl, hI⟩ := hrel; have q0 : wr.cell? ⟨W.heap.size, 1, none⟩ = some (.slice A n c) := (zai (zaq G1.out hI.out.1) 1).trans rfl; have q1 : wr.cell? ⟨W.heap.size + 1, 1, none⟩ = some (.slice A' n c') := (zai (zaq G2.out hI.out.1) 1).trans rfl
    by_cases hlt : j < n
    rotate_left
    · have hj1 : j = n := by omega
      go_wp2
      go_ret
      refine ⟨?_, zam HB.out hI.out.1⟩
      have h2 := hI.out.2; rw [hj1, Int.toNat_natCast, List.take_of_length_le (by rw [HX.out]; omega), List.take_of_length_le (by rw [HY.out]; omega)] at h2; rw [h2]; rfl
    have RR := Kd.za7 R.out (zam HB.out hI.out.1)
    have RR' := Kd.za7 R'.out (zam HB.out hI.out.1)
    obtain ⟨ad, A3, c3, rfl, s0, s1, s2, s3, l3, C3⟩ := zc6 RR j hj0 hlt; obtain ⟨ad', A3', c3', rfl, t0, t1, t2, t3, l3', C3'⟩ := zc6 RR' j hj0 hlt; clear RR RR'; have d1 : decide (j < 0) = false := decide_eq_false (by omega); have d2 : decide ((n : Int) ≤ j) = false := decide_eq_false (by omega)
    have held : ∀ w, Below wr.heap.size wr w → (Aside0 (Below wr.heap.size wr w) ∧ (w.cell? ⟨W.heap.size, 1, none⟩ = some (.slice (some ad) n c) ∧ w.cell? ⟨W.heap.size + 1, 1, none⟩ = some (.slice (some ad') n c')) ∧
        (w.cell? (ad.add (j.toNat * 4)) = some (Value.int IntKind.u32 (zal xs j).f0) ∧ w.cell? ⟨(ad.add (j.toNat * 4)).block, (ad.add (j.toNat * 4)).off + 1, none⟩ = some (Value.int IntKind.u32 (zal xs j).f1) ∧ w.cell? ⟨(ad.add (j.toNat * 4)).block, (ad.add (j.toNat * 4)).off + 2, none⟩ = some (Value.int IntKind.i64 (zal xs j).f2) ∧ w.cell? ⟨(ad.add (j.toNat * 4)).block, (ad.add (j.toNat * 4)).off + 3, none⟩ = some (Value.slice A3 (zal xs j).f3.length c3)) ∧
        (w.cell? (ad'.add (j.toNat * 4)) = some (Value.int IntKind.u32 (zal ys j).f0) ∧ w.cell? ⟨(ad'.add (j.toNat * 4)).block, (ad'.add (j.toNat * 4)).off + 1, none⟩ = some (Value.int IntKind.u32 (zal ys j).f1) ∧ w.cell? ⟨(ad'.add (j.toNat * 4)).block, (ad'.add (j.toNat * 4)).off + 2, none⟩ = some (Value.int IntKind.i64 (zal ys j).f2) ∧ w.cell? ⟨(ad'.add (j.toNat * 4)).block, (ad'.add (j.toNat * 4)).off + 3, none⟩ = some (Value.slice A3' (zal ys j).f3.length c3'))) :=
      fun w h => ⟨⟨h⟩, ⟨zbs h q0, zbs h q1⟩, ⟨zbs h s0, zbs h s1, zbs h s2, zbs h s3⟩, ⟨zbs h t0, zbs h t1, zbs h t2, zbs h t3⟩⟩
    have HD := Aside0.mk held; have CC := Aside0.mk C3; have CC' := Aside0.mk C3'; clear held C3 C3' l3 l3'; go_wp2; clear q0 q1 s0 s1 s2 s3 t0 t1 t2 t3
    go_region_held3 (fun w => Aside0 (Below wr.heap.size wr w) ∧ (w.cell? ⟨W.heap.size, 1, none⟩ = some (.slice (some ad) n c) ∧ w.cell? ⟨W.heap.size + 1, 1, none⟩ = some (.slice (some ad') n c')) ∧
        (w.cell? (ad.add (j.toNat * 4)) = some (Value.int IntKind.u32 (zal xs j).f0) ∧ w.cell? ⟨(ad.add (j.toNat * 4)).block, (ad.add (j.toNat * 4)).off + 1, none⟩ = some (Value.int IntKind.u32 (zal xs j).f1) ∧ w.cell? ⟨(ad.add (j.toNat * 4)).block, (ad.add (j.toNat * 4)).off + 2, none⟩ = some (Value.int IntKind.i64 (zal xs j).f2) ∧ w.cell? ⟨(ad.add (j.toNat * 4)).block, (ad.add (j.toNat * 4)).off + 3, none⟩ = some (Value.slice A3 (zal xs j).f3.length c3)) ∧
        (w.cell? (ad'.add (j.toNat * 4)) = some (Value.int IntKind.u32 (zal ys j).f0) ∧ w.cell? ⟨(ad'.add (j.toNat * 4)).block, (ad'.add (j.toNat * 4)).off + 1, none⟩ = some (Value.int IntKind.u32 (zal ys j).f1) ∧ w.cell? ⟨(ad'.add (j.toNat * 4)).block, (ad'.add (j.toNat * 4)).off + 2, none⟩ = some (Value.int IntKind.i64 (zal ys j).f2) ∧ w.cell? ⟨(ad'.add (j.toNat * 4)).block, (ad'.add (j.toNat * 4)).off + 3, none⟩ = some (Value.slice A3' (zal ys j).f3.length c3')))
      (exact HD.out _ (by repeat (first | exact Below.refl _ _ | apply zac | apply zab | refine zaf ?_ (by simp))))
      (fail)
    · have hb2 := zac (zab (zab (Below.refl wr.heap.size wr) (.cells #[.int .u32 (zal xs j).f0, .int .u32 (zal xs j).f1, .int .i64 (zal xs j).f2, .slice A3 (zal xs j).f3.length c3] 65)) (.cells #[.int .u32 (zal ys j).f0, .int .u32 (zal ys j).f1, .int .i64 (zal ys j).f2, .slice A3' (zal ys j).f3.length c3'] 65))
      have k1 := zaj (zad (zc5 wr (.cells #[.int .u32 (zal xs j).f0, .int .u32 (zal xs j).f1, .int .i64 (zal xs j).f2, .slice A3 (zal xs j).f3.length c3] 65)) (.cells #[.int .u32 (zal ys j).f0, .int .u32 (zal ys j).f1, .int .i64 (zal ys j).f2, .slice A3' (zal ys j).f3.length c3'] 65)); have k2 := zaj (zc5 (wr.alloc (.cells #[.int .u32 (zal xs j).f0, .int .u32 (zal xs j).f1, .int .i64 (zal xs j).f2, .slice A3 (zal xs j).f3.length c3] 65)) (.cells #[.int .u32 (zal ys j).f0, .int .u32 (zal ys j).f1, .int .i64 (zal ys j).f2, .slice A3' (zal ys j).f3.length c3'] 65)); rw [show (wr.alloc (.cells #[.int .u32 (zal xs j).f0, .int .u32 (zal xs j).f1, .int .i64 (zal xs j).f2, .slice A3 (zal xs j).f3.length c3] 65)).heap.size = wr.heap.size + 1 by simp] at k2; generalize ((wr.alloc (.cells #[.int .u32 (zal xs j).f0, .int .u32 (zal xs j).f1, .int .i64 (zal xs j).f2, .slice A3 (zal xs j).f3.length c3] 65)).alloc (.cells #[.int .u32 (zal ys j).f0, .int .u32 (zal ys j).f1, .int .i64 (zal ys j).f2, .slice A3' (zal ys j).f3.length c3'] 65)).drew = w2 at *; have cv1 := Kd.zek (P := Try.prog) (src := 28) (e := 5) (dst := 9) (c := c3) Try.underlying28 Try.underlying5 Try.underlying9 (Kd.za7 CC.out hb2); have cv2 := Kd.zek (P := Try.prog) (src := 28) (e := 5) (dst := 9) (c := c3') Try.underlying28 Try.underlying5 Try.underlying9 (Kd.za7 CC'.out hb2); have x0 : w2.cell? ⟨wr.heap.size, 0, none⟩ = some (.int .u32 (zal xs j).f0) := (zai k1 0).trans rfl; have x1 : w2.cell? ⟨wr.heap.size, 1, none⟩ = some (.int .u32 (zal xs j).f1) := (zai k1 1).trans rfl; have x2 : w2.cell? ⟨wr.heap.size, 2, none⟩ = some (.int .i64 (zal xs j).f2) := (zai k1 2).trans rfl; have x3 : w2.cell? ⟨wr.heap.size, 3, none⟩ = some (.slice A3 (zal xs j).f3.length c3) := (zai k1 3).trans rfl; have y0 : w2.cell? ⟨wr.heap.size + 1, 0, none⟩ = some (.int .u32 (zal ys j).f0) := (zai k2 0).trans rfl; have y1 : w2.cell? ⟨wr.heap.size + 1, 1, none⟩ = some (.int .u32 (zal ys j).f1) := (zai k2 1).trans rfl; have y2 : w2.cell? ⟨wr.heap.size + 1, 2, none⟩ = some (.int .i64 (zal ys j).f2) := (zai k2 2).trans rfl; have y3 : w2.cell? ⟨wr.heap.size + 1, 3, none⟩ = some (.slice A3' (zal ys j).f3.length c3') := (zai k2 3).trans rfl; have HE := Aside0.mk (zam hI.out.1 hb2); clear hb2 k1 k2 CC CC' R R' G1 G2 HD; have ex := zgz xs ys n HX.out HY.out j hj0 hlt; have EX := Aside0.mk ex; clear ex; generalize hX : zal xs j = X at *; generalize hY : zal ys j = Y at *
      have ng : ∀ (x : Bool), one X Y = false → x = x := fun _ _ => rfl
      clear ng
      by_cases e0 : X.f0 = Y.f0
      rotate_left
      · go_wp2
        go_ret
        exact ⟨by rw [(EX.out hI.out.2).2 (by simp [one, e0])]; rfl, zam HB.out HE.out⟩
      by_cases e1 : X.f1 = Y.f1
      rotate_left
      · go_wp2
        go_ret
        exact ⟨by rw [(EX.out hI.out.2).2 (by simp [one, e0, e1])]; rfl, zam HB.out HE.out⟩
      by_cases e2 : X.f2 = Y.f2
      rotate_left
      · go_wp2
        go_ret
        exact ⟨by rw [(EX.out hI.out.2).2 (by simp [one, e0, e1, e2])]; rfl, zam HB.out HE.out⟩
      by_cases e3 : (strOfNums X.f3).toList = (strOfNums Y.f3).toList
      · go_wp2
        case roundEnd => exact ⟨⟨j + 1, by omega, by omega, rfl, ⟨HE.out, (EX.out hI.out.2).1 (by simp [one, e0, e1, e2, e3])⟩⟩, by simp [intOf]; omega⟩
      have e4 : (!(strOfNums X.f3).toList == (strOfNums Y.f3).toList) = true := by simp [e3]
      go_wp2
      go_ret
      exact ⟨by rw [(EX.out hI.out.2).2 (by simp [one, e0, e1, e2, e3])]; rfl, zam HB.out HE.out⟩
    · have hb2 := zac (zab (zab (Below.refl wr.heap.size wr) (.cells #[.int .u32 (zal ys j).f0, .int .u32 (zal ys j).f1, .int .i64 (zal ys j).f2, .slice A3' (zal ys j).f3.length c3'] 65)) (.cells #[.int .u32 (zal xs j).f0, .int .u32 (zal xs j).f1, .int .i64 (zal xs j).f2, .slice A3 (zal xs j).f3.length c3] 65))
      have k1 := zaj (zad (zc5 wr (.cells #[.int .u32 (zal ys j).f0, .int .u32 (zal ys j).f1, .int .i64 (zal ys j).f2, .slice A3' (zal ys j).f3.length c3'] 65)) (.cells #[.int .u32 (zal xs j).f0, .int .u32 (zal xs j).f1, .int .i64 (zal xs j).f2, .slice A3 (zal xs j).f3.length c3] 65)); have k2 := zaj (zc5 (wr.alloc (.cells #[.int .u32 (zal ys j).f0, .int .u32 (zal ys j).f1, .int .i64 (zal ys j).f2, .slice A3' (zal ys j).f3.length c3'] 65)) (.cells #[.int .u32 (zal xs j).f0, .int .u32 (zal xs j).f1, .int .i64 (zal xs j).f2, .slice A3 (zal xs j).f3.length c3] 65)); rw [show (wr.alloc (.cells #[.int .u32 (zal ys j).f0, .int .u32 (zal ys j).f1, .int .i64 (zal ys j).f2, .slice A3' (zal ys j).f3.length c3'] 65)).heap.size = wr.heap.size + 1 by simp] at k2; generalize ((wr.alloc (.cells #[.int .u32 (zal ys j).f0, .int .u32 (zal ys j).f1, .int .i64 (zal ys j).f2, .slice A3' (zal ys j).f3.length c3'] 65)).alloc (.cells #[.int .u32 (zal xs j).f0, .int .u32 (zal xs j).f1, .int .i64 (zal xs j).f2, .slice A3 (zal xs j).f3.length c3] 65)).drew = w2 at *; have cv1 := Kd.zek (P := Try.prog) (src := 28) (e := 5) (dst := 9) (c := c3) Try.underlying28 Try.underlying5 Try.underlying9 (Kd.za7 CC.out hb2); have cv2 := Kd.zek (P := Try.prog) (src := 28) (e := 5) (dst := 9) (c := c3') Try.underlying28 Try.underlying5 Try.underlying9 (Kd.za7 CC'.out hb2); have x0 : w2.cell? ⟨wr.heap.size + 1, 0, none⟩ = some (.int .u32 (zal xs j).f0) := (zai k2 0).trans rfl; have x1 : w2.cell? ⟨wr.heap.size + 1, 1, none⟩ = some (.int .u32 (zal xs j).f1) := (zai k2 1).trans rfl; have x2 : w2.cell? ⟨wr.heap.size + 1, 2, none⟩ = some (.int .i64 (zal xs j).f2) := (zai k2 2).trans rfl; have x3 : w2.cell? ⟨wr.heap.size + 1, 3, none⟩ = some (.slice A3 (zal xs j).f3.length c3) := (zai k2 3).trans rfl; have y0 : w2.cell? ⟨wr.heap.size, 0, none⟩ = some (.int .u32 (zal ys j).f0) := (zai k1 0).trans rfl; have y1 : w2.cell? ⟨wr.heap.size, 1, none⟩ = some (.int .u32 (zal ys j).f1) := (zai k1 1).trans rfl; have y2 : w2.cell? ⟨wr.heap.size, 2, none⟩ = some (.int .i64 (zal ys j).f2) := (zai k1 2).trans rfl; have y3 : w2.cell? ⟨wr.heap.size, 3, none⟩ = some (.slice A3' (zal ys j).f3.length c3') := (zai k1 3).trans rfl; have HE := Aside0.mk (zam hI.out.1 hb2); clear hb2 k1 k2 CC CC' R R' G1 G2 HD; have ex := zgz xs ys n HX.out HY.out j hj0 hlt; have EX := Aside0.mk ex; clear ex; generalize hX : zal xs j = X at *; generalize hY : zal ys j = Y at *
      have ng : ∀ (x : Bool), one X Y = false → x = x := fun _ _ => rfl
      clear ng
      by_cases e0 : X.f0 = Y.f0
      rotate_left
      · go_wp2
        go_ret
        exact ⟨by rw [(EX.out hI.out.2).2 (by simp [one, e0])]; rfl, zam HB.out HE.out⟩
      by_cases e1 : X.f1 = Y.f1
      rotate_left
      · go_wp2
        go_ret
        exact ⟨by rw [(EX.out hI.out.2).2 (by simp [one, e0, e1])]; rfl, zam HB.out HE.out⟩
      by_cases e2 : X.f2 = Y.f2
      rotate_left
      · go_wp2
        go_ret
        exact ⟨by rw [(EX.out hI.out.2).2 (by simp [one, e0, e1, e2])]; rfl, zam HB.out HE.out⟩
      by_cases e3 : (strOfNums X.f3).toList = (strOfNums Y.f3).toList
      · go_wp2
        case roundEnd => exact ⟨⟨j + 1, by omega, by omega, rfl, ⟨HE.out, (EX.out hI.out.2).1 (by simp [one, e0, e1, e2, e3])⟩⟩, by simp [intOf]; omega⟩
      have e4 : (!(strOfNums X.f3).toList == (strOfNums Y.f3).toList) = true := by simp [e3]
      go_wp2
      go_ret
      exact ⟨by rw [(EX.out hI.out.2).2 (by simp [one, e0, e1, e2, e3])]; rfl, zam HB.out HE.out⟩
set_option maxHeartbeats 4000000 in
set_option maxRecDepth 100000 in
theorem same (W : World) (e : Int) (A : Option Addr) (c : Nat) (xs : List S65) (f : Int) (A' : Option Addr) (c' : Nat) (ys : List S65) (hr : Kd.C k65 W A xs.length xs) (hc : xs.length ≤ c) (hn : xs.length ≤ 1000000) (hr' : Kd.C k65 W A' ys.length ys) (hc' : ys.length ≤ c') :
    Calls Try.prog 17 #[.agg #[.int .u32 e, .slice A xs.length c], .agg #[.int .u32 f, .slice A' ys.length c']] W fun x w' => x = .returned (.bool (sameB e xs f ys)) ∧ Below W.heap.size W w' := by
  have hb0 := zab (zab (Below.refl W.heap.size W) (.cells #[.int .u32 e, .slice A xs.length c] 40)) (.cells #[.int .u32 f, .slice A' ys.length c'] 40)
  by_cases c1 : e = f
  rotate_left
  · have hu40 := Try.underlying40
    go_enter Try.func17, Try.ntmps17
    go_wp2
    go_ret
    exact ⟨by simp [sameB, c1], hb0⟩
  subst c1
  by_cases c2 : xs.length = ys.length
  · have h := same_n W xs.length e A c xs A' c' ys rfl c2.symm hr hc hn (by rw [c2]; exact hr') (by omega)
    rw [← c2]
    refine h.mono ?_
    rintro x w ⟨rfl, hb⟩
    exact ⟨by simp [sameB, c2], hb⟩
  have hu40 := Try.underlying40
  have c3 : ¬ ((xs.length : Int) = (ys.length : Int)) := by omega
  go_enter Try.func17, Try.ntmps17
  go_wp2
  go_ret
  exact ⟨by simp [sameB, c2], hb0⟩
end Go.Proofs.Ytcjaepmecihmlaa.Same
