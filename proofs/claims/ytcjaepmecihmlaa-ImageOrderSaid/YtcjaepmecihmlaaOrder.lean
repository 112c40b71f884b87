/- The law ImageOrder: its walk, against what Good tells of the segments one way and the other. -/
import Derived.Test.YtcjaepmecihmlaaI8
import Derived.Test.YtcjaepmecihmlaaLits
import Derived.Test.YtcjaepmecihmlaaOpenTImageBytes
import Derived.Deep.RegionHeld3
import Derived.Deep.DrawnRows
import Derived.WalkKit
import Derived.Outline
namespace Go.Proofs.Ytcjaepmecihmlaa.Order
open Go Go.RowKit Go.Proofs.Ytcjaepmecihmlaa.Img Go.Proofs.YtcjaepmecihmlaaW.PrintWords Go.Proofs.YtcjaepmecihmlaaW.PrintLast Go.Proofs.YtcjaepmecihmlaaW.PrintMore Go.Proofs.Ytcjaepmecihmlaa.Lits
set_option linter.unusedVariables false
set_option linter.unusedSimpArgs false
attribute [local go_sem ↓] Go.wp_at_zero Go.wp_at_succ
/-- A segment's cells as they stand: its bytes' row is named, not read. -/
structure Raw where
  f0 : Int
  f1 : Int
  f2 : Int
  A : Option Addr
  n : Nat
  c : Nat
def kraw : Kd Raw := Kd.iso (Kd.pair (Kd.int .u32) (Kd.pair (Kd.int .u32) (Kd.pair (Kd.int .i64) (Kd.scalar (fun (x : Option Addr × Nat × Nat) => Value.slice x.1 x.2.1 x.2.2) (fun _ => rfl))))) (fun x : Raw => (x.f0, x.f1, x.f2, x.A, x.n, x.c))
def rcs (x : Raw) : List Value := [.int .u32 x.f0, .int .u32 x.f1, .int .i64 x.f2, .slice x.A x.n x.c]
theorem kraw_open {w : World} {x : Raw} {cs : List Value} (h : kraw.K w x cs) : cs = rcs x := by
  obtain ⟨_, _, rfl, rfl, ⟨_, _, rfl, rfl, ⟨_, _, rfl, rfl, rfl⟩⟩⟩ := h; rfl
theorem kraw_mk (w : World) (x : Raw) : kraw.K w x (rcs x) := ⟨[.int .u32 x.f0], [.int .u32 x.f1, .int .i64 x.f2, .slice x.A x.n x.c], rfl, rfl, ⟨[.int .u32 x.f1], [.int .i64 x.f2, .slice x.A x.n x.c], rfl, rfl, ⟨[.int .i64 x.f2], [.slice x.A x.n x.c], rfl, rfl, rfl⟩⟩⟩
theorem kraw_mkM (w : World) (base : Nat) (ok : Nat → Prop) (x : Raw) : kraw.M w base ok x (rcs x) := ⟨[.int .u32 x.f0], [.int .u32 x.f1, .int .i64 x.f2, .slice x.A x.n x.c], rfl, rfl, ⟨[.int .u32 x.f1], [.int .i64 x.f2, .slice x.A x.n x.c], rfl, rfl, ⟨[.int .i64 x.f2], [.slice x.A x.n x.c], rfl, rfl, rfl⟩⟩⟩
/-- A raw segment reads as this one. -/
def Fits (W : World) (z : Raw) (s : S30) : Prop := z.f0 = s.f0 ∧ z.f1 = s.f1 ∧ z.f2 = s.f2 ∧ z.n = s.f3.length ∧ z.n ≤ z.c ∧ Kd.C (Kd.int .u8) W z.A s.f3.length s.f3
def Fit2 (W : World) (zs : List Raw) (ys : List S30) : Prop := zs.length = ys.length ∧ ∀ (j : Nat) (z : Raw) (s : S30), zs[j]? = some z → ys[j]? = some s → Fits W z s
theorem Fit2.nil (W : World) : Fit2 W [] [] := ⟨rfl, fun j z s h => by simp at h⟩
theorem Fit2.snoc {W : World} {zs : List Raw} {ys : List S30} {z : Raw} {s : S30} (h : Fit2 W zs ys) (hz : Fits W z s) : Fit2 W (zs ++ [z]) (ys ++ [s]) := by
  refine ⟨by simp [h.1], fun j z' s' h1 h2 => ?_⟩
  by_cases hj : j < zs.length
  · rw [List.getElem?_append_left hj] at h1
    rw [List.getElem?_append_left (by rw [← h.1]; exact hj)] at h2
    exact h.2 j z' s' h1 h2
  · rw [List.getElem?_append_right (by omega)] at h1
    rw [List.getElem?_append_right (by rw [← h.1]; omega), ← h.1] at h2
    have h3 := (List.getElem?_eq_some_iff.1 h1).1
    have h4 : j - zs.length = 0 := by simp at h3; omega
    rw [h4] at h1 h2
    have e1 : z = z' := by simpa using h1
    have e2 : s = s' := by simpa using h2
    rw [← e1, ← e2]; exact hz
theorem raw_C {W w : World} {A : Option Addr} (zs : List Raw) (ys : List S30) (hb : Below W.heap.size W w) (h : Kd.C kraw w A zs.length zs) (hm : Fit2 W zs ys) : Kd.C k30 w A ys.length ys := by
  have hl := hm.1
  obtain ⟨h1, h2, h3⟩ := h
  refine ⟨rfl, by rw [← hl]; exact h2, fun hp => ?_⟩
  obtain ⟨ad, ha, hc⟩ := h3 (by rw [hl]; exact hp)
  refine ⟨ad, ha, fun j p hj => ?_⟩
  have hj2 : j < zs.length := by rw [hl]; exact (List.getElem?_eq_some_iff.1 hj).1
  obtain ⟨cs, k1, k2, k3⟩ := hc j zs[j] (List.getElem?_eq_getElem hj2)
  have ec := kraw_open k2
  subst ec
  obtain ⟨e0, e1, e2, e3, e4, e5⟩ := hm.2 j zs[j] p (List.getElem?_eq_getElem hj2) hj
  refine ⟨rcs zs[j], k1, ?_, k3⟩
  have := k30_mk w p (A3 := zs[j].A) (c3 := zs[j].c) (by omega) (Kd.C_below e5 hb)
  rw [rcs, e0, e1, e2, e3]; exact this
theorem one_C {w : World} {g : Nat} {t : TypeId} (x : Raw) (h : w.heap[g]? = some (.cells (rcs x).toArray t (0, 0))) : Kd.C kraw w (some ⟨g, 0, none⟩) 1 [x] := by
  refine ⟨rfl, by omega, fun _ => ⟨⟨g, 0, none⟩, rfl, fun j p hj => ⟨rcs x, rfl, ?_, fun i u hu => ?_⟩⟩⟩
  · have hj0 : j = 0 := by
      have := (List.getElem?_eq_some_iff.1 hj).1
      simp at this; omega
    subst hj0
    have : x = p := by simpa using hj
    rw [← this]; exact kraw_mk w x
  · have hj0 : j = 0 := by
      have := (List.getElem?_eq_some_iff.1 hj).1
      simp at this; omega
    subst hj0
    have hsz : kraw.sz = 4 := rfl
    rw [Nat.zero_mul, Nat.zero_add, add_plain, blk_cell h, ← Array.getElem?_toList]
    exact hu
theorem info30' : (Try.prog.info? 30).map (fun i => (i.zero, i.size, i.bytes)) = some (some (.agg #[(.int .u32 0), (.int .u32 0), (.int .i64 0), (.slice none 0 0)]), 4, 40) := by kernel_rfl
/-- What the loop holds: the image at W's end, the other at q with the row v. -/
structure Held (W w : World) (e : Int) (A : Option Addr) (n c q : Nat) (v : Value) : Prop where
  hg : w.heap[W.heap.size]? = some (.cells #[.int .u32 e, .slice A n c] 26 (0, 0))
  hq : w.heap[q]? = some (.cells #[.int .u32 e, v] 26 (0, 0))
  hB : Below W.heap.size W w
  hne : W.heap.size < q
theorem Held.below {W w w' : World} {e : Int} {A : Option Addr} {n c q : Nat} {v : Value} (h : Held W w e A n c q v) (hb : Below w.heap.size w w') : Held W w' e A n c q v := ⟨blk_below h.hg hb, blk_below h.hq hb, below_step h.hB hb, h.hne⟩
theorem Held.lt {W w : World} {e : Int} {A : Option Addr} {n c q : Nat} {v : Value} (h : Held W w e A n c q v) : q < w.heap.size := blk_lt h.hq
theorem Held.grown {W w w' : World} {e : Int} {A : Option Addr} {n c q : Nat} {v : Value} {row : Option Nat} (h : Held W w e A n c q v) (hB : Below W.heap.size W w') (hg : w.grownBy w' row) (hr : ∀ k, row = some k → q < k) : Held W w' e A n c q v :=
  ⟨blk_grown h.hg hg (fun e => by have := hr _ e.symm; have := h.hne; omega), blk_grown h.hq hg (fun e => by have := hr _ e.symm; omega), hB, h.hne⟩
theorem Held.set {W w : World} {e : Int} {A : Option Addr} {n c q : Nat} {v : Value} (h : Held W w e A n c q v) (v2 : Value) : Held W (w.setCell ⟨q, 1, none⟩ v2) e A n c q v2 :=
  ⟨blk_far h.hg (by have := h.hne; show W.heap.size ≠ q; omega) v2, blk_put h.hq 1 v2 rfl, below_set h.hB (by have := h.hne; omega), h.hne⟩
theorem Held.cells {W w : World} {e : Int} {A : Option Addr} {n c q : Nat} {v : Value} (h : Held W w e A n c q v) : (w.cell? ⟨W.heap.size, 0, none⟩ = some (.int .u32 e) ∧ w.cell? ⟨W.heap.size, 1, none⟩ = some (.slice A n c)) ∧ (w.cell? ⟨q, 0, none⟩ = some (.int .u32 e) ∧ w.cell? ⟨q, 1, none⟩ = some v) :=
  ⟨⟨(blk_cell h.hg 0).trans rfl, (blk_cell h.hg 1).trans rfl⟩, ⟨(blk_cell h.hq 0).trans rfl, (blk_cell h.hq 1).trans rfl⟩⟩
def T9 : Bool × List (List Nat × List Nat) := (true, [([], []), ([0], [0]), ([], []), ([2], [2]), ([], []), ([3, 4], [3, 4]), ([5], [5]), ([6], [6]), ([1, 7], [1, 7]), ([0, 1, 2, 3, 4, 5, 6, 7, 8], []), ([9, 8, 8, 0, 1, 2, 3, 4, 5, 6, 7, 8], [8, 9])])
def B9 : List Nat := [0, 1, 0, 4, 0, 28, 60, 124, 255, 511, 1023]
theorem tab9 : rtab .any (opsOf Try.f7 9) = T9 := by kernel_rfl
theorem bits9 : waitsOk T9.2 B9 = true := by kernel_rfl
set_option maxHeartbeats 4000000 in
set_option maxRecDepth 100000 in
theorem run (W : World) (e : Int) (A : Option Addr) (c : Nat) (xs : List S30) (hr : Kd.C k30 W A xs.length xs) (hc : xs.length ≤ c) (k : Nat) (t : Int) (hx : xs.length ≤ 10)
    (haw : Aside0 (tincturelaw8_awake.f k = some true)) (hgr : Aside0 (tincturelaw8_great.f k e xs = some false)) (h1 : Aside0 (image_Good.f k e xs = some t)) (t' : Int) (h2 : Aside0 (image_Good.f k e xs.reverse = some t')) (htt : (t = 0) = (t' = 0)) :
    Calls Try.prog 7 #[.agg #[.int .u32 e, .slice A xs.length c]] W fun x w' => x = .returned (.bool true) ∧ Below W.heap.size W w' := by
  have R := Aside0.mk hr; have HC := Aside0.mk hc; have HT := Aside0.mk htt
  clear hr hc htt
  have hu26 := Try.underlying26
  have hu30 := Try.underlying30
  have hu24 := Try.underlying24
  go_enter Try.func7, Try.ntmps7
  go_wp2_with fail
  have hal := below_alloc (Below.refl W.heap.size W) (.cells #[.int .u32 e, .slice A xs.length c] 26)
  have hg := blk_new W (.cells #[.int .u32 e, .slice A xs.length c] 26)
  refine (tincturelaw8_awake.calls k true _ haw.out).mono ?_
  rintro x w1 ⟨rfl, hb⟩
  have HB := Aside0.mk (below_step hal hb); have G := Aside0.mk (blk_below hg hb)
  clear hal hg hb
  have q0 : w1.cell? ⟨W.heap.size, 0, none⟩ = some (.int .u32 e) := (blk_cell G.out 0).trans rfl
  have q1 : w1.cell? ⟨W.heap.size, 1, none⟩ = some (.slice A xs.length c) := (blk_cell G.out 1).trans rfl
  go_wp2_with fail
  refine (tincturelaw8_great.calls k e A c xs false w1 (Kd.C_below R.out HB.out) HC.out hgr.out).mono ?_
  rintro x w2 ⟨rfl, hb⟩
  have HB2 := Aside0.mk (below_step HB.out hb); have G2 := Aside0.mk (blk_below G.out hb)
  clear HB G hb q0 q1
  have q0 : w2.cell? ⟨W.heap.size, 0, none⟩ = some (.int .u32 e) := (blk_cell G2.out 0).trans rfl
  have q1 : ∀ o, (w2.alloc o).cell? ⟨W.heap.size, 1, none⟩ = some (.slice A xs.length c) := fun o => (blk_cell (blk_alloc G2.out o) 1).trans rfl
  go_wp2
  have hal := below_alloc (Below.refl w2.heap.size w2) (.cells #[.int .u32 e, .slice none 0 0] 26)
  have H0 : Held W (w2.alloc (.cells #[.int .u32 e, .slice none 0 0] 26)) e A xs.length c w2.heap.size (.slice none 0 0) := ⟨blk_below G2.out hal, blk_new _ _, below_step HB2.out hal, blk_lt G2.out⟩
  have HH := Aside0.mk H0
  clear hal H0 HB2 G2 q0 q1
  generalize hw4 : w2.alloc (.cells #[.int .u32 e, .slice none 0 0] 26) = w4 at *
  generalize hq : w2.heap.size = q at *
  clear hw4 hq
  go_loopw [4] (fun i wr => ∃ j : Int, -1 ≤ j ∧ j < xs.length ∧ i = .int .i64 j ∧ Aside0 (∃ v zs, Held W wr e A xs.length c q v ∧ Kd.R kraw 30 wr W.heap.size (fun k => q < k) v zs ∧ Fit2 W zs (xs.drop (j + 1).toNat).reverse)) (fun i _ => (intOf i + 1).toNat)
  case atStart =>
    refine ⟨(xs.length : Int) - 1, by omega, by omega, by first | rfl | (congr 1; omega), ⟨_, [], HH.out, Kd.R_nil _ _ _ _ _, ?_⟩⟩
    rw [List.drop_of_length_le (by omega)]; exact Fit2.nil W
  case round =>
    obtain ⟨j, hj0, hj, rfl, hI⟩ := hrel
    obtain ⟨v, zs, hH, hR, hF⟩ := hI.out
    obtain ⟨Ao, co, rfl, lo, ro⟩ := Kd.R_reads hR
    have HN := Aside0.mk hH; have HR := Aside0.mk hR; have HF := Aside0.mk hF
    obtain ⟨⟨q0, q1⟩, ⟨p0, p1⟩⟩ := HN.out.cells
    have hzl : zs.length ≤ 10 := by have := HF.out.1; simp at this; omega
    clear hI hH hR hF lo ro HH
    by_cases hlt : 0 ≤ j
    · obtain ⟨ad, A3, c3, rfl, s0, s1, s2, s3, l3, C3⟩ := at_T30 R.out j hlt hj
      have d1 : decide (j < 0) = false := decide_eq_false (by omega)
      have d2 : decide ((xs.length : Int) ≤ j) = false := decide_eq_false (by omega)
      have held : ∀ w, Held W w e (some ad) xs.length c q (.slice Ao zs.length co) → ((w.cell? ⟨q, 1, none⟩ = some (.slice Ao zs.length co)) ∧ (w.cell? ⟨W.heap.size, 1, none⟩ = some (.slice (some ad) xs.length c)) ∧
          (w.cell? (ad.add (j.toNat * 4)) = some (Value.int IntKind.u32 (rd_T30 xs j).f0)) ∧ (w.cell? ⟨(ad.add (j.toNat * 4)).block, (ad.add (j.toNat * 4)).off + 1, none⟩ = some (Value.int IntKind.u32 (rd_T30 xs j).f1)) ∧ (w.cell? ⟨(ad.add (j.toNat * 4)).block, (ad.add (j.toNat * 4)).off + 2, none⟩ = some (Value.int IntKind.i64 (rd_T30 xs j).f2)) ∧ (w.cell? ⟨(ad.add (j.toNat * 4)).block, (ad.add (j.toNat * 4)).off + 3, none⟩ = some (Value.slice A3 (rd_T30 xs j).f3.length c3))) :=
        fun w h => ⟨h.cells.2.2, h.cells.1.2, pw_cell_below h.hB s0, pw_cell_below h.hB s1, pw_cell_below h.hB s2, pw_cell_below h.hB s3⟩
      have HD := Aside0.mk held
      have FZ : Aside0 (Fits W ⟨(rd_T30 xs j).f0, (rd_T30 xs j).f1, (rd_T30 xs j).f2, A3, (rd_T30 xs j).f3.length, c3⟩ (rd_T30 xs j)) := ⟨rfl, rfl, rfl, rfl, l3, C3⟩
      have p1' : ∀ o, (wr.alloc o).cell? ⟨q, 1, none⟩ = some (.slice Ao zs.length co) := fun o => (blk_cell (blk_alloc HN.out.hq o) 1).trans rfl
      clear held s0 s1 s2 s3 l3 C3 q0 q1 p0
      go_wp2
      generalize hX : rd_T30 xs j = X at *
      refine start_ (n := 11) (S := fun w => (w.cell? ⟨q, 1, none⟩ = some (.slice Ao zs.length co)) ∧ (w.cell? ⟨W.heap.size, 1, none⟩ = some (.slice (some ad) xs.length c)) ∧
          (w.cell? (ad.add (j.toNat * 4)) = some (Value.int IntKind.u32 X.f0)) ∧ (w.cell? ⟨(ad.add (j.toNat * 4)).block, (ad.add (j.toNat * 4)).off + 1, none⟩ = some (Value.int IntKind.u32 X.f1)) ∧ (w.cell? ⟨(ad.add (j.toNat * 4)).block, (ad.add (j.toNat * 4)).off + 2, none⟩ = some (Value.int IntKind.i64 X.f2)) ∧ (w.cell? ⟨(ad.add (j.toNat * 4)).block, (ad.add (j.toNat * 4)).off + 3, none⟩ = some (Value.slice A3 X.f3.length c3))) (ds := [10]) #[ff, ff, ff, ff, ff, ff, ff, ff, ff, ff, ff] (by kernel_rfl) rfl rfl (HD.out _ (HN.out.below (below_drew1 (Below.refl _ _)))) (fun hHeld => ?_); refine with_tabW tab9 bits9 (fun HT_ HW_ => ?_)
      have HN1 := Aside0.mk (HN.out.below (below_drew1 (Below.refl _ _)))
      have HR1 := Aside0.mk (Kd.R_drew HR.out)
      clear HN HR p1'
      generalize wr.drew = w1 at *
      refine pure_ (i := 0) (N := some 22) (v := ?_) (a' := ?_) #[tt, ff, ff, ff, ff, ff, ff, ff, ff, ff, ff] rfl rfl (any_of HT_.out (by kernel_rfl)) (fun _ _ _ h => h) (Or.inl ⟨by rfl, ?_⟩) ?_ ?_
      rotate_left
      · intro w'
        go_simp
        with_reducible rfl
      rotate_left
      · simp only [Act.put, List.setIfInBounds_toArray, List.set_cons_zero, List.set_cons_succ, i64_w, i32_w]
        rfl
      refine pure_ (i := 2) (N := some 24) (v := ?_) (a' := ?_) #[tt, ff, tt, ff, ff, ff, ff, ff, ff, ff, ff] rfl rfl (any_of HT_.out (by kernel_rfl)) (fun _ _ _ h => h) (Or.inl ⟨by rfl, ?_⟩) ?_ ?_
      rotate_left
      · intro w'
        go_simp
        with_reducible rfl
      rotate_left
      · simp only [Act.put, List.setIfInBounds_toArray, List.set_cons_zero, List.set_cons_succ, i64_w, i32_w]
        rfl
      refine pure_ (i := 4) (N := some 26) (v := ?_) (a' := ?_) #[tt, ff, tt, ff, tt, ff, ff, ff, ff, ff, ff] rfl rfl (any_of HT_.out (by kernel_rfl)) (fun _ _ _ h => h) (Or.inl ⟨by rfl, ?_⟩) ?_ ?_
      rotate_left
      · intro w'
        go_simp
        with_reducible rfl
      rotate_left
      · simp only [Act.put, List.setIfInBounds_toArray, List.set_cons_zero, List.set_cons_succ, i64_w, i32_w]
        rfl
      refine take_ (i := 1) (N := some 23) (v := ?_) (a' := ?_) #[tt, tt, tt, ff, tt, ff, ff, ff, ff, ff, ff] rfl rfl (take_ofW HT_.out HW_.out (by kernel_rfl)) (fun _ _ _ h => h) (Or.inl ⟨by rfl, ?_⟩) hHeld ?_ ?_
      rotate_left
      · rintro w' ⟨s0, s1, s2, s3, s4, s5⟩
        go_simp
        with_reducible rfl
      rotate_left
      · simp only [Act.put, List.setIfInBounds_toArray, List.set_cons_zero, List.set_cons_succ, i64_w, i32_w]
        rfl
      refine take_ (i := 3) (N := some 25) (v := ?_) (a' := ?_) #[tt, tt, tt, tt, tt, ff, ff, ff, ff, ff, ff] rfl rfl (take_ofW HT_.out HW_.out (by kernel_rfl)) (fun _ _ _ h => h) (Or.inl ⟨by rfl, ?_⟩) hHeld ?_ ?_
      rotate_left
      · rintro w' ⟨s0, s1, s2, s3, s4, s5⟩
        go_simp
        with_reducible rfl
      rotate_left
      · simp only [Act.put, List.setIfInBounds_toArray, List.set_cons_zero, List.set_cons_succ, i64_w, i32_w]
        rfl
      refine pure_ (i := 5) (N := some 27) (v := ?_) (a' := ?_) #[tt, tt, tt, tt, tt, tt, ff, ff, ff, ff, ff] rfl rfl (any_of HT_.out (by kernel_rfl)) (fun _ _ _ h => h) (Or.inl ⟨by rfl, ?_⟩) ?_ ?_
      rotate_left
      · intro w'
        go_simp
        with_reducible rfl
      rotate_left
      · simp only [Act.put, List.setIfInBounds_toArray, List.set_cons_zero, List.set_cons_succ, i64_w, i32_w]
        rfl
      refine take_ (i := 6) (N := some 28) (v := ?_) (a' := ?_) #[tt, tt, tt, tt, tt, tt, tt, ff, ff, ff, ff] rfl rfl (take_ofW HT_.out HW_.out (by kernel_rfl)) (fun _ _ _ h => h) (Or.inl ⟨by rfl, ?_⟩) hHeld ?_ ?_
      rotate_left
      · rintro w' ⟨s0, s1, s2, s3, s4, s5⟩
        go_simp
        with_reducible rfl
      rotate_left
      · simp only [Act.put, List.setIfInBounds_toArray, List.set_cons_zero, List.set_cons_succ, i64_w, i32_w]
        rfl
      refine one_ (i := 7) (N := some 29) #[tt, tt, tt, tt, tt, tt, tt, tt, ff, ff, ff] rfl rfl (one_of HT_.out (by kernel_rfl)) (by decide) (fun K hK => ?_)
      refine value_ (w1 := ?_) (v := ?_) (by rfl) rfl ?_ ?_
      rotate_left 2
      · go_simp
        constructor
        · rfl
        · rfl
      have HN2 := Aside0.mk (HN1.out.below (below_alloc (Below.refl w1.heap.size w1) (.cells #[.int .u32 X.f0, .int .u32 X.f1, .int .i64 X.f2, .slice A3 X.f3.length c3] 30)))
      have HR2 := Aside0.mk (Kd.R_alloc HR1.out (.cells #[.int .u32 X.f0, .int .u32 X.f1, .int .i64 X.f2, .slice A3 X.f3.length c3] 30))
      refine hK.out _ _ (HD.out _ HN2.out) (fun hHeld => ?_)
      clear hK K
      refine norm_ (a' := ?_) ?_ ?_
      rotate_left
      · show Act.put _ (some 29) _ = _
        simp only [Act.put, List.setIfInBounds_toArray, List.set_cons_zero, List.set_cons_succ, i64_w, i32_w]
        rfl
      refine one_ (i := 8) (N := some 30) #[tt, tt, tt, tt, tt, tt, tt, tt, tt, ff, ff] rfl rfl (one_of HT_.out (by kernel_rfl)) (by decide) (fun K hK => ?_)
      refine Kd.R_append_step kraw (w0 := W) W.heap.size (by rfl) (.tmp 23) (.tmp 29) 24 30 (.agg #[(.int .u32 0), (.int .u32 0), (.int .i64 0), (.slice none 0 0)]) 40 rfl Try.underlying24 info30' rfl (by decide) (by omega) (.slice Ao zs.length co) zs (⟨X.f0, X.f1, X.f2, A3, X.f3.length, c3⟩ : Raw) (rcs ⟨X.f0, X.f1, X.f2, A3, X.f3.length, c3⟩) (fun k => q < k) (fun _ => False) rfl rfl ?aP (fun _ hk => hk.elim) ?aF ?aO ?aB ?aS ?aL ?_
      case aP => exact kraw_mkM _ _ _ _
      case aB => exact HN1.out.hB
      case aF => intro k hk; have h1 := HN1.out.lt; omega
      case aO => exact HR1.out
      case aS => exact below_size HN1.out.hB
      case aL => omega
      intro v2 w2 ho hb hg hat
      have hn2 := HN1.out.grown hb hg (fun k hk => HR1.out.1 k hk)
      obtain ⟨Ao2, co2, hv2, lo2, ro2⟩ := Kd.R_reads ho
      subst hv2
      rw [List.length_append, List.length_singleton] at ho
      have HR := Aside0.mk ho; have HN := Aside0.mk hn2
      clear HN1 HR1 HN2 HR2 hn2 ho lo2 ro2 hb hg hat
      refine hK.out _ _ (HD.out _ HN.out) (fun hHeld => ?_)
      clear hK K
      refine norm_ (a' := ?_) ?_ ?_
      rotate_left
      · show Act.put _ (some 30) _ = _
        simp only [Act.put, List.setIfInBounds_toArray, List.set_cons_zero, List.set_cons_succ, i64_w, i32_w]
        rfl
      refine pure_ (i := 9) (N := some 31) (v := ?_) (a' := ?_) #[tt, tt, tt, tt, tt, tt, tt, tt, tt, tt, ff] rfl rfl (any_of HT_.out (by kernel_rfl)) (fun _ _ _ h => h) (Or.inl ⟨by rfl, ?_⟩) ?_ ?_
      rotate_left
      · intro w'
        go_simp
        with_reducible rfl
      rotate_left
      · simp only [Act.put, List.setIfInBounds_toArray, List.set_cons_zero, List.set_cons_succ, i64_w, i32_w]
        rfl
      refine last_ (i := 10) (N := none) #[tt, tt, tt, tt, tt, tt, tt, tt, tt, tt, tt] rfl rfl (one_of HT_.out (by kernel_rfl)) (by decide) (fun K hK => ?_)
      have p1 : w2.cell? ⟨q, 1, none⟩ = some (.slice Ao zs.length co) := (blk_cell HN.out.hq 1).trans rfl
      have pf : w2.frozen? ⟨q, 1, none⟩ = false := blk_frozen HN.out.hq 1
      refine skip_ (w1 := ?_) (by rfl) rfl ?_ ?_
      rotate_left
      · go_simp
        rfl
      refine hK.out _ _ ?_
      clear hK K
      refine done_ (done_of HT_.out (by kernel_rfl)) ?_
      · have HN5 := Aside0.mk (HN.out.set (.slice Ao2 (zs.length + 1) co2))
        have HR5 := Aside0.mk (Kd.R_set HR.out HN.out.hq (by decide) 1 (.slice Ao2 (zs.length + 1) co2))
        clear HN HR p1 pf
        generalize w2.setCell ⟨q, 1, none⟩ (.slice Ao2 (zs.length + 1) co2) = w5 at *
        go_wp2
        exact ⟨⟨j - 1, by omega, by omega, rfl, ⟨_, _, HN5.out, HR5.out, by
          have hk : j.toNat < xs.length := by omega
          have e1 : (j - 1 + 1).toNat = j.toNat := by omega
          have e2 : X = xs[j.toNat] := by rw [← hX]; simp [rd_T30, hk]
          have e3 : (j + 1).toNat = j.toNat + 1 := by omega
          have h5 := HF.out
          rw [e3] at h5
          rw [e1, List.drop_eq_getElem_cons hk, List.reverse_cons, ← e2]
          exact h5.snoc FZ.out⟩⟩, by simp [intOf]; omega⟩
    · have hj1 : j = -1 := by omega
      subst hj1
      have RO := Aside0.mk (Kd.R_reads' HR.out).2
      have RC := Aside0.mk (raw_C zs _ HN.out.hB RO.out.2 HF.out)
      have hzx : zs.length = xs.length := by have := HF.out.1; simpa using this
      have e9 : (xs.drop ((-1 : Int) + 1).toNat).reverse = xs.reverse := rfl
      rw [e9] at RC
      have e8 : xs.reverse.length = xs.length := List.length_reverse
      go_wp2
      have held : ∀ w, Below wr.heap.size wr w → (Aside0 (Below wr.heap.size wr w) ∧ (w.cell? ⟨W.heap.size, 0, none⟩ = some (.int .u32 e) ∧ w.cell? ⟨W.heap.size, 1, none⟩ = some (.slice A xs.length c)) ∧ (w.cell? ⟨q, 0, none⟩ = some (.int .u32 e) ∧ w.cell? ⟨q, 1, none⟩ = some (.slice Ao zs.length co))) :=
        fun w h => ⟨⟨h⟩, (HN.out.below h).cells.1, (HN.out.below h).cells.2⟩
      have HD := Aside0.mk held
      have hz : zs.length = xs.reverse.length := by rw [e8]; exact hzx
      have good2 : ∀ w, Below wr.heap.size wr w → Calls Try.prog 12 #[.agg #[.int .u32 e, .slice Ao zs.length co]] w fun x w' => x = .returned (.int .i64 t') ∧ Below w.heap.size w w' := by
        intro w hb
        rw [hz]
        exact image_Good.calls k e Ao co xs.reverse t' w (Kd.C_below RC.out hb) (by rw [← hz]; exact RO.out.1) h2.out
      have good1 : ∀ w, Below wr.heap.size wr w → Calls Try.prog 12 #[.agg #[.int .u32 e, .slice A xs.length c]] w fun x w' => x = .returned (.int .i64 t) ∧ Below w.heap.size w w' :=
        fun w hb => image_Good.calls k e A c xs t w (Kd.C_below R.out (below_step HN.out.hB hb)) HC.out h1.out
      have G1 := Aside0.mk good1; have G2 := Aside0.mk good2
      clear good1 good2 RC RO HF HR hz hzx e8 e9
      have HE := Aside0.mk (Below.refl wr.heap.size wr)
      clear held q0 q1 p0 p1
      go_region_held3 (fun w => Aside0 (Below wr.heap.size wr w) ∧ (w.cell? ⟨W.heap.size, 0, none⟩ = some (.int .u32 e) ∧ w.cell? ⟨W.heap.size, 1, none⟩ = some (.slice A xs.length c)) ∧ (w.cell? ⟨q, 0, none⟩ = some (.int .u32 e) ∧ w.cell? ⟨q, 1, none⟩ = some (.slice Ao zs.length co)))
        (exact HD.out _ (by with_reducible repeat (first | exact HE.out | exact Below.refl _ _ | apply below_drew1)))
        (first
          | (have fl := FL; go_at_call 12
             refine (G2.out _ (by with_reducible repeat (first | exact HE.out | apply below_drew1))).mono ?_
             rintro x w7 ⟨rfl, hb⟩
             have HE2 := Aside0.mk (below_step (by with_reducible repeat (first | exact HE.out | apply below_drew1)) hb)
             clear HE hb
             have HE := HE2
             clear HE2)
          | (go_at_call 12
             refine (G1.out _ (by with_reducible repeat (first | exact HE.out | apply below_drew1))).mono ?_
             rintro x w7 ⟨rfl, hb⟩
             have FL := Aside0.mk trivial
             have HE2 := Aside0.mk (below_step (by with_reducible repeat (first | exact HE.out | apply below_drew1)) hb)
             clear HE hb
             have HE := HE2
             clear HE2))
      all_goals
        by_cases ht : t = 0
        · have ht2 : t' = 0 := (by rw [← HT.out]; exact ht)
          subst ht; subst ht2
          go_wp2
          go_ret
          exact ⟨rfl, below_step HN.out.hB HE.out⟩
        · have ht2 : ¬ t' = 0 := (by rw [← HT.out]; exact ht)
          go_wp2
          go_ret
          have b1 : (t == 0) = false := beq_eq_false_iff_ne.2 ht
          have b2 : (t' == 0) = false := beq_eq_false_iff_ne.2 ht2
          exact ⟨by simp [b1, b2], below_step HN.out.hB HE.out⟩
set_option maxHeartbeats 4000000 in
set_option maxRecDepth 100000 in
theorem great (W : World) (e : Int) (A : Option Addr) (c : Nat) (xs : List S30) (hr : Kd.C k30 W A xs.length xs) (hc : xs.length ≤ c) (k : Nat)
    (haw : Aside0 (tincturelaw8_awake.f k = some true)) (hgr : Aside0 (tincturelaw8_great.f k e xs = some true)) :
    Calls Try.prog 7 #[.agg #[.int .u32 e, .slice A xs.length c]] W fun x w' => x = .returned (.bool true) ∧ Below W.heap.size W w' := by
  have R := Aside0.mk hr; have HC := Aside0.mk hc
  clear hr hc
  have hu26 := Try.underlying26
  go_enter Try.func7, Try.ntmps7
  go_wp2_with fail
  have hal := below_alloc (Below.refl W.heap.size W) (.cells #[.int .u32 e, .slice A xs.length c] 26)
  have hg := blk_new W (.cells #[.int .u32 e, .slice A xs.length c] 26)
  refine (tincturelaw8_awake.calls k true _ haw.out).mono ?_
  rintro x w1 ⟨rfl, hb⟩
  have HB := Aside0.mk (below_step hal hb); have G := Aside0.mk (blk_below hg hb)
  clear hal hg hb
  have q0 : w1.cell? ⟨W.heap.size, 0, none⟩ = some (.int .u32 e) := (blk_cell G.out 0).trans rfl
  have q1 : w1.cell? ⟨W.heap.size, 1, none⟩ = some (.slice A xs.length c) := (blk_cell G.out 1).trans rfl
  go_wp2_with fail
  refine (tincturelaw8_great.calls k e A c xs true w1 (Kd.C_below R.out HB.out) HC.out hgr.out).mono ?_
  rintro x w2 ⟨rfl, hb⟩
  have HB2 := Aside0.mk (below_step HB.out hb)
  clear HB G hb q0 q1
  go_wp2
  go_ret
  exact ⟨rfl, HB2.out⟩
end Go.Proofs.Ytcjaepmecihmlaa.Order
