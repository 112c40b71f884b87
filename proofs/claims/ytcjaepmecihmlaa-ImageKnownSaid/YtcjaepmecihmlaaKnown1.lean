/- What small answers, block by block; the state of ImageKnown's memory. -/
import Derived.Test.YtcjaepmecihmlaaRaw
import Derived.Test.YtcjaepmecihmlaaReg
import Derived.Test.YtcjaepmecihmlaaI6
import Derived.Lib.Hide
namespace Go.Proofs.Ytcjaepmecihmlaa.Known
open Go Go.RowKit Go.Proofs.Ytcjaepmecihmlaa.Img Go.Proofs.YtcjaepmecihmlaaW.PrintWords Go.Proofs.YtcjaepmecihmlaaW.PrintLast Go.Proofs.YtcjaepmecihmlaaW.PrintMore Go.Proofs.Ytcjaepmecihmlaa.Raw
set_option linter.unusedVariables false
set_option linter.unusedSimpArgs false
def sl (h : Nat) : Value := .slice (some ⟨h, 0, none⟩) 1 1
/-- An image of one segment: the variable's block v, the segments' row h, the bytes' row g. -/
structure Seg (w : World) (h g : Nat) (x y z : Int) : Prop where
  hh : w.heap[h]? = some (.cells #[.int .u32 x, .int .u32 y, .int .i64 z, .slice (some ⟨g, 0, none⟩) 3 3] 30 (0, 0))
  hg : w.heap[g]? = some (.cells #[.int .u8 1, .int .u8 2, .int .u8 3] 5 (0, 0))
theorem Seg.below {w w' : World} {h g : Nat} {x y z : Int} (s : Seg w h g x y z) (hb : Below w.heap.size w w') : Seg w' h g x y z := ⟨blk_below s.hh hb, blk_below s.hg hb⟩
theorem Seg.far {w : World} {h g : Nat} {x y z : Int} (s : Seg w h g x y z) {p : Addr} (h1 : h ≠ p.block) (h2 : g ≠ p.block) (u : Value) : Seg (w.setCell p u) h g x y z := ⟨blk_far s.hh h1 u, blk_far s.hg h2 u⟩
theorem Seg.fits {w : World} {h g : Nat} {x y z : Int} (s : Seg w h g x y z) : Fits w ⟨x, y, z, some ⟨g, 0, none⟩, 3, 3⟩ ⟨x, y, z, [1, 2, 3]⟩ := ⟨rfl, rfl, rfl, rfl, Nat.le_refl _, bytes_C s.hg⟩
theorem Seg.C {w : World} {h g : Nat} {x y z : Int} (s : Seg w h g x y z) : Kd.C k30 w (some ⟨h, 0, none⟩) 1 [(⟨x, y, z, [1, 2, 3]⟩ : S30)] :=
  raw_C (W := w) [(⟨x, y, z, some ⟨g, 0, none⟩, 3, 3⟩ : Raw)] [⟨x, y, z, [1, 2, 3]⟩] (Below.refl _ _) (one_C _ s.hh) ((Fit2.nil w).snoc s.fits)
theorem blk2 (w : World) (o1 o2 : Obj) : ((w.alloc o1).alloc o2).heap[w.heap.size + 1]? = some o2 := by
  have h := blk_new (w.alloc o1) o2
  have e : (w.alloc o1).heap.size = w.heap.size + 1 := by simp
  rw [e] at h
  exact h
theorem blk3 (w : World) (o1 o2 o3 : Obj) : (((w.alloc o1).alloc o2).alloc o3).heap[w.heap.size + 2]? = some o3 := by
  have h := blk_new ((w.alloc o1).alloc o2) o3
  have e : ((w.alloc o1).alloc o2).heap.size = w.heap.size + 2 := by simp
  rw [e] at h
  exact h
theorem blk4 (w : World) (o1 o2 o3 o4 : Obj) : ((((w.alloc o1).alloc o2).alloc o3).alloc o4).heap[w.heap.size + 3]? = some o4 := by
  have h := blk_new (((w.alloc o1).alloc o2).alloc o3) o4
  have e : (((w.alloc o1).alloc o2).alloc o3).heap.size = w.heap.size + 3 := by simp
  rw [e] at h
  exact h
theorem blk5 (w : World) (o1 o2 o3 o4 o5 : Obj) : (((((w.alloc o1).alloc o2).alloc o3).alloc o4).alloc o5).heap[w.heap.size + 4]? = some o5 := by
  have h := blk_new ((((w.alloc o1).alloc o2).alloc o3).alloc o4) o5
  have e : ((((w.alloc o1).alloc o2).alloc o3).alloc o4).heap.size = w.heap.size + 4 := by simp
  rw [e] at h
  exact h
def SmallE (w : World) (e : Ending) (w' : World) : Prop := ∃ g h, e = .returned (.agg #[.int .u32 4096, sl h]) ∧ Seg w' h g 4096 8 5 ∧ w.heap.size ≤ g ∧ g < h ∧ h < w'.heap.size ∧ Below w.heap.size w w'
set_option maxRecDepth 100000 in
theorem small9 (w : World) : Calls Try.prog 9 #[] w (SmallE w) := by
  go_enter Try.func9, Try.ntmps9
  go_wp2
  refine bodyPost_ret (v := .agg #[.int .u32 4096, sl (w.heap.size + 2)]) (by simp [results, Try.results9, go_sem, sl]) rfl ?_
  refine ⟨w.heap.size + 1, w.heap.size + 2, rfl, ⟨blk3 w _ _ _, blk_alloc (blk2 w _ _) _⟩, by omega, by omega, by simp, ?_⟩
  exact below_alloc (below_alloc (below_alloc (Below.refl _ _) _) _) _
/-- ImageKnown's five images: their blocks, in order. -/
structure Ns where
  ga : Nat
  ha : Nat
  gb : Nat
  hb : Nat
  gc : Nat
  hc : Nat
  gd : Nat
  hd : Nat
  ge : Nat
  he : Nat
  v : Nat
structure Ord (W : World) (n : Ns) : Prop where
  o0 : W.heap.size ≤ n.ga
  o1 : n.ga < n.ha
  o2 : n.ha < n.gb
  o3 : n.gb < n.hb
  o4 : n.hb < n.gc
  o5 : n.gc < n.hc
  o6 : n.hc < n.gd
  o7 : n.gd < n.hd
  o8 : n.hd < n.ge
  o9 : n.ge < n.he
  o10 : n.he < n.v
def vb (e : Int) (u : Value) : Obj := .cells #[.int .u32 e, u] 26 (0, 0)
/-- What stands: the images' blocks, as far as the stores have come. -/
structure ST (W : World) (n : Ns) (w : World) (ea zb : Int) (uc : Value) (yd : Int) : Prop where
  ord : Ord W n
  below : Below W.heap.size W w
  a : Seg w n.ha n.ga 4096 8 5
  b : Seg w n.hb n.gb 4096 8 zb
  d : Seg w n.hd n.gd 4096 yd 5
  e : Seg w n.he n.ge 4096 8 5
  va : w.heap[n.v]? = some (vb ea (sl n.ha))
  vbb : w.heap[n.v + 1]? = some (vb 4096 (sl n.hb))
  vc : w.heap[n.v + 2]? = some (vb 4096 uc)
  vd : w.heap[n.v + 3]? = some (vb 4096 (sl n.hd))
  ve : w.heap[n.v + 4]? = some (vb 4096 (sl n.he))
section
variable {W w : World} {n : Ns} {ea zb yd : Int} {uc : Value}
theorem ST.setA (s : ST W n w ea zb uc yd) (x : Int) : ST W n (w.setCell ⟨n.v, 0, none⟩ (.int .u32 x)) x zb uc yd := by
  have o := s.ord
  have h0 := o.o0; have h1 := o.o1; have h2 := o.o2; have h3 := o.o3; have h4 := o.o4; have h5 := o.o5; have h6 := o.o6; have h7 := o.o7; have h8 := o.o8; have h9 := o.o9; have h10 := o.o10
  refine ⟨o, s.below.setCell (by show W.heap.size ≤ n.v; omega) _, ?_, ?_, ?_, ?_, ?_, ?_, ?_, ?_, ?_⟩
  · exact s.a.far (by show n.ha ≠ n.v; omega) (by show n.ga ≠ n.v; omega) _
  · exact s.b.far (by show n.hb ≠ n.v; omega) (by show n.gb ≠ n.v; omega) _
  · exact s.d.far (by show n.hd ≠ n.v; omega) (by show n.gd ≠ n.v; omega) _
  · exact s.e.far (by show n.he ≠ n.v; omega) (by show n.ge ≠ n.v; omega) _
  · exact blk_put s.va 0 _ rfl
  · exact blk_far s.vbb (by show n.v + 1 ≠ n.v; omega) _
  · exact blk_far s.vc (by show n.v + 2 ≠ n.v; omega) _
  · exact blk_far s.vd (by show n.v + 3 ≠ n.v; omega) _
  · exact blk_far s.ve (by show n.v + 4 ≠ n.v; omega) _
theorem ST.setB (s : ST W n w ea zb uc yd) (x : Int) : ST W n (w.setCell ⟨n.hb, 2, none⟩ (.int .i64 x)) ea x uc yd := by
  have o := s.ord
  have h0 := o.o0; have h1 := o.o1; have h2 := o.o2; have h3 := o.o3; have h4 := o.o4; have h5 := o.o5; have h6 := o.o6; have h7 := o.o7; have h8 := o.o8; have h9 := o.o9; have h10 := o.o10
  refine ⟨o, s.below.setCell (by show W.heap.size ≤ n.hb; omega) _, ?_, ?_, ?_, ?_, ?_, ?_, ?_, ?_, ?_⟩
  · exact s.a.far (by show n.ha ≠ n.hb; omega) (by show n.ga ≠ n.hb; omega) _
  · exact ⟨blk_put s.b.hh 2 _ rfl, blk_far s.b.hg (by show n.gb ≠ n.hb; omega) _⟩
  · exact s.d.far (by show n.hd ≠ n.hb; omega) (by show n.gd ≠ n.hb; omega) _
  · exact s.e.far (by show n.he ≠ n.hb; omega) (by show n.ge ≠ n.hb; omega) _
  · exact blk_far s.va (by show n.v ≠ n.hb; omega) _
  · exact blk_far s.vbb (by show n.v + 1 ≠ n.hb; omega) _
  · exact blk_far s.vc (by show n.v + 2 ≠ n.hb; omega) _
  · exact blk_far s.vd (by show n.v + 3 ≠ n.hb; omega) _
  · exact blk_far s.ve (by show n.v + 4 ≠ n.hb; omega) _
theorem ST.setC (s : ST W n w ea zb uc yd) (x : Value) : ST W n (w.setCell ⟨n.v + 2, 1, none⟩ x) ea zb x yd := by
  have o := s.ord
  have h0 := o.o0; have h1 := o.o1; have h2 := o.o2; have h3 := o.o3; have h4 := o.o4; have h5 := o.o5; have h6 := o.o6; have h7 := o.o7; have h8 := o.o8; have h9 := o.o9; have h10 := o.o10
  refine ⟨o, s.below.setCell (by show W.heap.size ≤ n.v + 2; omega) _, ?_, ?_, ?_, ?_, ?_, ?_, ?_, ?_, ?_⟩
  · exact s.a.far (by show n.ha ≠ n.v + 2; omega) (by show n.ga ≠ n.v + 2; omega) _
  · exact s.b.far (by show n.hb ≠ n.v + 2; omega) (by show n.gb ≠ n.v + 2; omega) _
  · exact s.d.far (by show n.hd ≠ n.v + 2; omega) (by show n.gd ≠ n.v + 2; omega) _
  · exact s.e.far (by show n.he ≠ n.v + 2; omega) (by show n.ge ≠ n.v + 2; omega) _
  · exact blk_far s.va (by show n.v ≠ n.v + 2; omega) _
  · exact blk_far s.vbb (by show n.v + 1 ≠ n.v + 2; omega) _
  · exact blk_put s.vc 1 _ rfl
  · exact blk_far s.vd (by show n.v + 3 ≠ n.v + 2; omega) _
  · exact blk_far s.ve (by show n.v + 4 ≠ n.v + 2; omega) _
theorem ST.setD (s : ST W n w ea zb uc yd) (x : Int) : ST W n (w.setCell ⟨n.hd, 1, none⟩ (.int .u32 x)) ea zb uc x := by
  have o := s.ord
  have h0 := o.o0; have h1 := o.o1; have h2 := o.o2; have h3 := o.o3; have h4 := o.o4; have h5 := o.o5; have h6 := o.o6; have h7 := o.o7; have h8 := o.o8; have h9 := o.o9; have h10 := o.o10
  refine ⟨o, s.below.setCell (by show W.heap.size ≤ n.hd; omega) _, ?_, ?_, ?_, ?_, ?_, ?_, ?_, ?_, ?_⟩
  · exact s.a.far (by show n.ha ≠ n.hd; omega) (by show n.ga ≠ n.hd; omega) _
  · exact s.b.far (by show n.hb ≠ n.hd; omega) (by show n.gb ≠ n.hd; omega) _
  · exact ⟨blk_put s.d.hh 1 _ rfl, blk_far s.d.hg (by show n.gd ≠ n.hd; omega) _⟩
  · exact s.e.far (by show n.he ≠ n.hd; omega) (by show n.ge ≠ n.hd; omega) _
  · exact blk_far s.va (by show n.v ≠ n.hd; omega) _
  · exact blk_far s.vbb (by show n.v + 1 ≠ n.hd; omega) _
  · exact blk_far s.vc (by show n.v + 2 ≠ n.hd; omega) _
  · exact blk_far s.vd (by show n.v + 3 ≠ n.hd; omega) _
  · exact blk_far s.ve (by show n.v + 4 ≠ n.hd; omega) _
end
/-- What Good is asked of at the end: each image, as it reads. -/
structure Fin (W : World) (n : Ns) (w : World) (Ae : Option Addr) (ce : Nat) : Prop where
  below : Below W.heap.size W w
  a : Kd.C k30 w (some ⟨n.ha, 0, none⟩) 1 [(⟨4096, 8, 5, [1, 2, 3]⟩ : S30)]
  b : Kd.C k30 w (some ⟨n.hb, 0, none⟩) 1 [(⟨4096, 8, 1, [1, 2, 3]⟩ : S30)]
  d : Kd.C k30 w (some ⟨n.hd, 0, none⟩) 1 [(⟨4096, 2, 5, [1, 2, 3]⟩ : S30)]
  e : Kd.C k30 w Ae 2 [(⟨4096, 8, 5, [1, 2, 3]⟩ : S30), ⟨4352, 65536, 1, []⟩]
  hce : 2 ≤ ce
  va : w.heap[n.v]? = some (vb 4097 (sl n.ha))
  vbb : w.heap[n.v + 1]? = some (vb 4096 (sl n.hb))
  vc : w.heap[n.v + 2]? = some (vb 4096 (.slice none 0 0))
  vd : w.heap[n.v + 3]? = some (vb 4096 (sl n.hd))
  ve : w.heap[n.v + 4]? = some (vb 4096 (.slice Ae 2 ce))
theorem Fin.later {W w w' : World} {n : Ns} {Ae : Option Addr} {ce : Nat} (s : Fin W n w Ae ce) (hb : Below w.heap.size w w') : Fin W n w' Ae ce :=
  ⟨below_step s.below hb, Kd.C_below s.a hb, Kd.C_below s.b hb, Kd.C_below s.d hb, Kd.C_below s.e hb, s.hce, blk_below s.va hb, blk_below s.vbb hb, blk_below s.vc hb, blk_below s.vd hb, blk_below s.ve hb⟩
/-- Behind the append to e. -/
theorem fin_of {W w w1 : World} {n : Ns} {v : Value} (s : ST W n w 4097 1 (.slice none 0 0) 2) (hg : w.grownBy w1 (some n.he)) (hB : Below W.heap.size W w1)
    (hR : Kd.R kraw 30 w1 W.heap.size (fun k => k ≠ n.v + 4) v [(⟨4096, 8, 5, some ⟨n.ge, 0, none⟩, 3, 3⟩ : Raw), ⟨4352, 65536, 1, none, 0, 0⟩]) :
    ∃ Ae ce, v = .slice Ae 2 ce ∧ Fin W n (w1.setCell ⟨n.v + 4, 1, none⟩ v) Ae ce := by
  have o := s.ord
  have h0 := o.o0; have h1 := o.o1; have h2 := o.o2; have h3 := o.o3; have h4 := o.o4; have h5 := o.o5; have h6 := o.o6; have h7 := o.o7; have h8 := o.o8; have h9 := o.o9; have h10 := o.o10
  have ne : ∀ k, k ≠ n.he → some k ≠ some n.he := fun k hk e => hk (Option.some.inj e)
  have sa : Seg w1 n.ha n.ga 4096 8 5 := ⟨blk_grown s.a.hh hg (ne _ (by omega)), blk_grown s.a.hg hg (ne _ (by omega))⟩
  have sb : Seg w1 n.hb n.gb 4096 8 1 := ⟨blk_grown s.b.hh hg (ne _ (by omega)), blk_grown s.b.hg hg (ne _ (by omega))⟩
  have sd : Seg w1 n.hd n.gd 4096 2 5 := ⟨blk_grown s.d.hh hg (ne _ (by omega)), blk_grown s.d.hg hg (ne _ (by omega))⟩
  have ge := blk_far (blk_grown s.e.hg hg (ne n.ge (by omega))) (p := ⟨n.v + 4, 1, none⟩) (by show n.ge ≠ n.v + 4; omega) v
  have R2 := Kd.R_far hR (p := ⟨n.v + 4, 1, none⟩) (fun _ hk => hk) v
  obtain ⟨Ae, ce, rfl, hc, hC⟩ := Kd.R_reads R2
  refine ⟨Ae, ce, rfl, hB.setCell (by show W.heap.size ≤ n.v + 4; omega) _, (sa.far (by show n.ha ≠ n.v + 4; omega) (by show n.ga ≠ n.v + 4; omega) _).C, (sb.far (by show n.hb ≠ n.v + 4; omega) (by show n.gb ≠ n.v + 4; omega) _).C, (sd.far (by show n.hd ≠ n.v + 4; omega) (by show n.gd ≠ n.v + 4; omega) _).C, ?_, hc,
    blk_far (blk_grown s.va hg (ne _ (by omega))) (by show n.v ≠ n.v + 4; omega) _, blk_far (blk_grown s.vbb hg (ne _ (by omega))) (by show n.v + 1 ≠ n.v + 4; omega) _, blk_far (blk_grown s.vc hg (ne _ (by omega))) (by show n.v + 2 ≠ n.v + 4; omega) _, blk_far (blk_grown s.vd hg (ne _ (by omega))) (by show n.v + 3 ≠ n.v + 4; omega) _, blk_put (blk_grown s.ve hg (ne _ (by omega))) 1 _ rfl⟩
  refine raw_C (W := w1.setCell ⟨n.v + 4, 1, none⟩ (.slice Ae 2 ce)) _ [(⟨4096, 8, 5, [1, 2, 3]⟩ : S30), ⟨4352, 65536, 1, []⟩] (Below.refl _ _) hC (((Fit2.nil _).snoc ⟨rfl, rfl, rfl, rfl, Nat.le_refl _, bytes_C ge⟩).snoc ⟨rfl, rfl, rfl, rfl, Nat.le_refl _, ⟨rfl, by simp, fun h => absurd h (by simp)⟩⟩)
/-- What Get leaves. -/
def GetE (r1 : Int) (n : Nat) (r3 : Int) (w : World) (e : Ending) (w' : World) : Prop := ∃ A c, e = .returned (.tuple #[.agg #[.int .u32 r1, .slice A n c], .int .i64 r3]) ∧ Below w.heap.size w w'
theorem get_any (l : List Int) (n : Nat) (hn : l.length = n) (r1 : Int) (r2 : List S30) (r3 : Int) (h : image_Get.f 1000 l = some (r1, r2, r3)) (A : Option Addr) (c : Nat) (w : World) (hC : Kd.C (Kd.int .u8) w A n l) (hc : n ≤ c) :
    Calls Try.prog 10 #[.slice A n c] w (GetE r1 r2.length r3 w) := by
  subst hn
  refine (image_Get.calls 1000 A c l r1 r2 r3 w hC hc h).mono ?_
  rintro e w' ⟨v, rfl, hS, hb⟩
  obtain ⟨A2, c2, rfl, _, _⟩ := Kd.S_reads hS
  exact ⟨A2, c2, rfl, hb⟩
def B87 : List Int := [127, 69, 76, 70, 1, 1, 1, 0, 0, 0, 0, 0, 0, 0, 0, 0, 2, 0, 243, 0, 1, 0, 0, 0, 0, 16, 0, 0, 52, 0, 0, 0, 0, 0, 0, 0, 0, 0, 0, 0, 52, 0, 32, 0, 1, 0, 0, 0, 0, 0, 0, 0, 1, 0, 0, 0, 84, 0, 0, 0, 0, 16, 0, 0, 0, 16, 0, 0, 3, 0, 0, 0, 8, 0, 0, 0, 5, 0, 0, 0, 0, 1, 0, 0, 1, 2, 3]
def PutE (w : World) (e : Ending) (w' : World) : Prop := ∃ g c, e = .returned (.tuple #[.slice (some ⟨g, 0, none⟩) 87 c, .int .i64 0]) ∧ Kd.R (Kd.int .u8) 5 w' w.heap.size (fun _ => True) (.slice (some ⟨g, 0, none⟩) 87 c) B87 ∧ Below w.heap.size w w'
theorem put_small (w : World) (h g : Nat) (s : Seg w h g 4096 8 5) : Calls Try.prog 11 #[.agg #[.int .u32 4096, .slice (some ⟨h, 0, none⟩) 1 1]] w (PutE w) := by
  refine (image_Put.calls 1000 4096 (some ⟨h, 0, none⟩) 1 [(⟨4096, 8, 5, [1, 2, 3]⟩ : S30)] B87 0 w s.C (Nat.le_refl _) (by decide +kernel)).mono ?_
  rintro e w' ⟨v, rfl, hR, hb⟩
  obtain ⟨g2, cap, cur, rfl, _⟩ : ∃ g cap cur, v = .slice (some ⟨g, 0, none⟩) 87 cap ∧ w'.heap[g]? = some (.cells cur 5 (0, 0)) := by
    have ho := Kd.own_of_R hR
    rcases ho.2 with ⟨rfl, h0⟩ | ⟨g, cap, cur, e, _, hh, _⟩
    · exact absurd h0 (by decide)
    · exact ⟨g, cap, cur, e, hh⟩
  exact ⟨g2, cap, rfl, hR, hb⟩
section
variable {w : World} {base g c : Nat} {l : List Int}
theorem xr_cell (h : Kd.R (Kd.int .u8) 5 w base (fun _ => True) (.slice (some ⟨g, 0, none⟩) 87 c) l) (i : Nat) (x : Int) (hx : l[i]? = some x) : w.cell? ⟨g, i, none⟩ = some (.int .u8 x) ∧ w.frozen? ⟨g, i, none⟩ = false ∧ base ≤ g := by
  have ho := Kd.own_of_R h
  have hi : i < l.length := (List.getElem?_eq_some_iff.1 hx).1
  rcases ho.2 with ⟨e, _⟩ | ⟨g', cap, cur, e, hb, hh, _, _, _, ht⟩
  · cases e
  · injection e with e1 e2 e3
    injection e1 with e1
    injection e1 with e1
    subst e1
    refine ⟨?_, blk_frozen hh i, hb⟩
    rw [blk_cell hh]
    have h2 : (cur.toList.take (l.length * 1))[i]? = some (.int .u8 x) := by
      rw [ht]; simp [encs, hx]
    rw [List.getElem?_take, if_pos (by omega)] at h2
    simpa using h2
theorem xr_set (h : Kd.R (Kd.int .u8) 5 w base (fun _ => True) (.slice (some ⟨g, 0, none⟩) 87 c) l) (hl : l.length = 87) (i : Nat) (y : Int) : Kd.R (Kd.int .u8) 5 (w.setCell ⟨g, i, none⟩ (.int .u8 y)) base (fun _ => True) (.slice (some ⟨g, 0, none⟩) 87 c) (l.set i y) := by
  have ho := Kd.own_of_R h
  rw [hl] at ho
  have hs := (own_store_of (enc := Value.int .u8) ho (i : Int) y).1
  rw [Int.toNat_natCast] at hs
  refine Kd.R_of_own (enc := Value.int .u8) ?_ (fun _ _ => trivial)
  rw [List.length_set, hl]
  exact hs
theorem xr_C (h : Kd.R (Kd.int .u8) 5 w base (fun _ => True) (.slice (some ⟨g, 0, none⟩) 87 c) l) (hl : l.length = 87) : Kd.C (Kd.int .u8) w (some ⟨g, 0, none⟩) 87 l ∧ 87 ≤ c := by
  obtain ⟨A, c', e, hc, hC⟩ := Kd.R_reads h
  injection e with e1 e2 e3
  subst e1; subst e3
  rw [hl] at hC hc
  exact ⟨hC, hc⟩
end
theorem made {n : Nat} {w : World} {base : Nat} {ok : Nat → Prop} {v : Value} (h : Kd.R (Kd.int .u8) 5 w base ok v (List.replicate n 0)) : ∃ A c, v = .slice A n c ∧ n ≤ c ∧ Kd.C (Kd.int .u8) w A n (List.replicate n 0) := by
  have := Kd.R_reads h
  simpa using this
theorem get_100 : image_Get.f 1000 (List.replicate 100 0) = some (0, [], 3) := by kernel_rfl
theorem get_x : image_Get.f 1000 ((B87.set 48 7).set 24 4) = some (4100, [(⟨4096, 8, 5, [1, 2, 3]⟩ : S30)], 0) := by kernel_rfl
theorem get_9 : image_Get.f 1000 (((B87.set 48 7).set 24 4).set 44 9) = some (0, [], 2) := by kernel_rfl
theorem get_great : image_Get.f 1000 (List.replicate 65537 0) = some (0, [], 2) := by
  unfold image_Get.f
  rw [if_pos (by rw [List.length_replicate]; decide)]
theorem good_a : image_Good.f 1000 4097 [(⟨4096, 8, 5, [1, 2, 3]⟩ : S30)] = some 1 := by decide +kernel
theorem good_b : image_Good.f 1000 4096 [(⟨4096, 8, 1, [1, 2, 3]⟩ : S30)] = some 1 := by decide +kernel
theorem good_c : image_Good.f 1000 4096 ([] : List S30) = some 1 := by decide +kernel
theorem good_d : image_Good.f 1000 4096 [(⟨4096, 2, 5, [1, 2, 3]⟩ : S30)] = some 1 := by decide +kernel
theorem good_e : image_Good.f 1000 4096 [(⟨4096, 8, 5, [1, 2, 3]⟩ : S30), ⟨4352, 65536, 1, []⟩] = some 2 := by decide +kernel
theorem good_two : image_Good.f 1000 4096 [(⟨4096, 8, 5, [1, 2, 3]⟩ : S30), ⟨4096, 1, 1, []⟩] = some 1 := by decide +kernel
/-- Behind the append to two: its block v, its rows. -/
theorem two_of {w w1 : World} {h g v0 base : Nat} {v : Value} (s : Seg w h g 4096 8 5) (hv : w.heap[v0]? = some (vb 4096 (sl h))) (n1 : g ≠ h) (n2 : v0 ≠ h) (n3 : g ≠ v0) (hg : w.grownBy w1 (some h))
    (hR : Kd.R kraw 30 w1 base (fun k => k ≠ v0) v [(⟨4096, 8, 5, some ⟨g, 0, none⟩, 3, 3⟩ : Raw), ⟨4096, 1, 1, none, 0, 0⟩]) :
    ∃ Ae ce, v = .slice Ae 2 ce ∧ 2 ≤ ce ∧ (w1.setCell ⟨v0, 1, none⟩ v).heap[v0]? = some (vb 4096 (.slice Ae 2 ce)) ∧ Kd.C k30 (w1.setCell ⟨v0, 1, none⟩ v) Ae 2 [(⟨4096, 8, 5, [1, 2, 3]⟩ : S30), ⟨4096, 1, 1, []⟩] := by
  have ne : ∀ k, k ≠ h → some k ≠ some h := fun k hk e => hk (Option.some.inj e)
  have ge := blk_far (blk_grown s.hg hg (ne g n1)) (p := ⟨v0, 1, none⟩) n3 v
  have R2 := Kd.R_far hR (p := ⟨v0, 1, none⟩) (fun _ hk => hk) v
  obtain ⟨Ae, ce, rfl, hc, hC⟩ := Kd.R_reads R2
  exact ⟨Ae, ce, rfl, hc, blk_put (blk_grown hv hg (ne v0 n2)) 1 _ rfl, raw_C (W := w1.setCell ⟨v0, 1, none⟩ (.slice Ae 2 ce)) _ [(⟨4096, 8, 5, [1, 2, 3]⟩ : S30), ⟨4096, 1, 1, []⟩] (Below.refl _ _) hC (((Fit2.nil _).snoc ⟨rfl, rfl, rfl, rfl, Nat.le_refl _, bytes_C ge⟩).snoc ⟨rfl, rfl, rfl, rfl, Nat.le_refl _, ⟨rfl, by simp, fun h => absurd h (by simp)⟩⟩)⟩
end Go.Proofs.Ytcjaepmecihmlaa.Known
