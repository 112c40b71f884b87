/- The memory of the reference's GetImage; what any bytes are, in the reference's own values. -/
import Derived.Test.YtcjaepmecihmlaaRefBytes
import Derived.Test.YtcjaepmecihmlaaRPutEq
import Derived.Test.YtcjaepmecihmlaaGetAny
namespace Go.Proofs.Ytcjaepmecihmlaa.RefImg
open Go Go.RowKit Go.Proofs.Ytcjaepmecihmlaa.Img Go.Proofs.YtcjaepmecihmlaaW.PrintWords Go.Proofs.YtcjaepmecihmlaaW.PrintLast Go.Proofs.YtcjaepmecihmlaaW.PrintMore Go.Proofs.Ytcjaepmecihmlaa.ImgPure Go.Proofs.Ytcjaepmecihmlaa.GetPure Go.Proofs.Ytcjaepmecihmlaa.GetAny Go.Proofs.Ytcjaepmecihmlaa.GoodEq Go.Proofs.Ytcjaepmecihmlaa.RPutEq Go.Proofs.Ytcjaepmecihmlaa.RefRd
set_option linter.unusedVariables false
set_option linter.unusedSimpArgs false
/-- The reader at gr, K bytes asked for; other blocks that stand (F); the row of segments. -/
structure RS (W w : World) (gr : Nat) (L : List Int) (K : Nat) (F : List (Nat × Obj)) (v : Value) (xs : List S65) : Prop where
  hI : ∃ k bad, IsS62 W w gr L ((k : Nat) : Int) bad ∧ Pos L K k bad
  hB : Below W.heap.size W w
  ge : W.heap.size ≤ gr
  hF : ∀ p, p ∈ F → W.heap.size ≤ p.1 ∧ p.1 ≠ gr ∧ w.heap[p.1]? = some p.2
  hr : Kd.R k65 65 w W.heap.size (fun k => k ≠ gr ∧ ∀ p, p ∈ F → k ≠ p.1) v xs
section
variable {W w w1 : World} {gr : Nat} {L : List Int} {K : Nat} {F : List (Nat × Obj)} {v : Value} {xs : List S65}
theorem RS.below (h : RS W w gr L K F v xs) (hb : Below w.heap.size w w1) : RS W w1 gr L K F v xs := by
  obtain ⟨k, bad, h1, h2⟩ := h.hI
  exact ⟨⟨k, bad, h1.below hb, h2⟩, zam h.hB hb, h.ge, fun p hp => ⟨(h.hF p hp).1, (h.hF p hp).2.1, zaq (h.hF p hp).2.2 hb⟩, Kd.zbf h.hr hb⟩
theorem RS.num (h : RS W w gr L K F v xs) (hL : Bytes L) (hl : L.length ≤ 1000000) (s : Nat) (hs : s ≤ 4) :
    Calls Try.prog 29 #[.pointer (some ⟨gr, 0, none⟩), .int .i64 (s : Int)] w fun e w' => e = .returned (.int .u32 (gotV L K s)) ∧ RS W w' gr L (K + s) F v xs := by
  obtain ⟨k, bad, h1, h2⟩ := h.hI
  refine (num_call gr L K k s bad W w hL hl hs h1 h2 h.hB).mono ?_
  rintro e w' ⟨rfl, k', bad', q1, q2, q3, q4⟩
  exact ⟨rfl, ⟨⟨k', bad', q1, q2⟩, q3, h.ge, fun p hp => ⟨(h.hF p hp).1, (h.hF p hp).2.1, q4.blk (h.hF p hp).2.2 (h.hF p hp).2.1 (by simp)⟩, Kd.R_keep h.hr q4 (fun _ hk => hk.1)⟩⟩
theorem RS.lt (h : RS W w gr L K F v xs) : gr < w.heap.size := by
  obtain ⟨k, bad, h1, _⟩ := h.hI
  exact h1.lt
theorem RS.alloc (h : RS W w gr L K F v xs) (cs : Array Value) (t : TypeId) : RS W (w.alloc (.cells cs t (0, 0))) gr L K ((w.heap.size, .cells cs t (0, 0)) :: F) v xs := by
  have hb := zab (Below.refl w.heap.size w) (.cells cs t (0, 0))
  have h' := h.below hb
  have hlt := h.lt
  refine ⟨h'.hI, h'.hB, h.ge, fun p hp => ?_, ?_⟩
  · rcases List.mem_cons.1 hp with rfl | hp
    · exact ⟨h.hB.size, by show w.heap.size ≠ gr; omega, zc5 w _⟩
    · exact h'.hF p hp
  · refine Kd.zbf (Kd.zbk (Kd.zbz h.hr) (fun k hk => ⟨hk.1.1, fun p hp => ?_⟩)) hb
    rcases List.mem_cons.1 hp with rfl | hp
    · show k ≠ w.heap.size
      have := hk.2.2.1; omega
    · exact hk.1.2 p hp
theorem RS.fresh (h : RS W w gr L K F v xs) : ∀ k, w.heap.size ≤ k → k ≠ gr ∧ ∀ p, p ∈ F → k ≠ p.1 := fun k hk => by
  have := h.lt
  exact ⟨by omega, fun p hp e => by have := za3 (h.hF p hp).2.2; omega⟩
/-- A store into the first of the blocks. -/
theorem RS.set {g : Nat} {cs : Array Value} {t : TypeId} (h : RS W w gr L K ((g, .cells cs t (0, 0)) :: F) v xs) (hg : ∀ p, p ∈ F → p.1 ≠ g) (j : Nat) (u : Value) :
    RS W (w.setCell ⟨g, j, none⟩ u) gr L K ((g, .cells (cs.setIfInBounds j u) t (0, 0)) :: F) v xs := by
  obtain ⟨k, bad, h1, h2⟩ := h.hI
  have hh := h.hF _ List.mem_cons_self
  refine ⟨⟨k, bad, h1.far (p := ⟨g, j, none⟩) hh.2.1.symm u, h2⟩, h.hB.setCell hh.1 u, h.ge, fun p hp => ?_, ?_⟩
  · rcases List.mem_cons.1 hp with rfl | hp
    · exact ⟨hh.1, hh.2.1, zc4 hh.2.2 j u⟩
    · have hq := h.hF p (List.mem_cons_of_mem _ hp)
      exact ⟨hq.1, hq.2.1, (Below.heap_setCell w ⟨g, j, none⟩ u p.1 (hg p hp)).trans hq.2.2⟩
  · refine Kd.zbk (Kd.R_far h.hr (p := ⟨g, j, none⟩) (fun k hk => hk.2 _ List.mem_cons_self) u) (fun k hk => ⟨hk.1, fun p hp => ?_⟩)
    rcases List.mem_cons.1 hp with rfl | hp
    · show k ≠ g
      exact hk.2 (g, .cells cs t (0, 0)) List.mem_cons_self
    · exact hk.2 p (List.mem_cons_of_mem _ hp)
theorem RS.badc (h : RS W w gr L K F v xs) : w.cell? ⟨gr, 2, none⟩ = some (.bool (decide (L.length < K))) := by
  obtain ⟨k, bad, ⟨A, c, h1, _⟩, h2⟩ := h.hI
  have e : bad = decide (L.length < K) := by
    rcases h2 with ⟨h3, _, h4⟩ | ⟨h3, _, h5⟩
    · rw [h3, decide_eq_false (by omega)]
    · rw [h3, decide_eq_true h5]
  rw [← e]
  exact (zai h1 2).trans rfl
/-- A call of Bytes. -/
theorem RS.bytes (h : RS W w gr L K F v xs) (hl : L.length ≤ 1000000) (n : Nat) (hn : n ≤ 1000000) (hn0 : 0 < n) :
    Calls Try.prog 28 #[.pointer (some ⟨gr, 0, none⟩), .int .u32 n] w fun e w' => ∃ v1, e = .returned v1 ∧ RS W w' gr L (K + n) F v xs ∧ Kd.R (Kd.int .u8) 5 w' W.heap.size (fun _ => True) v1 (if L.length < K + n then [] else (L.drop K).take n) := by
  obtain ⟨k, bad, ⟨A, c, h1, h3, h4, h5⟩, h2⟩ := h.hI
  have hbad : ∀ w', (∃ m, w' = (w.drewN m).setCell ⟨gr, 2, none⟩ (.bool true)) → k ≤ L.length → L.length < K + n → RS W w' gr L (K + n) F v xs := by
    rintro w' ⟨m, rfl⟩ hk hlt
    have hd := zaa (Below.refl w.heap.size w) m
    have hq := h.below hd
    have hg : (w.drewN m).heap[gr]? = some (.cells #[.slice A L.length c, .int .i64 k, .bool bad] 62 (0, 0)) := zaq h1 hd
    refine ⟨⟨k, true, ⟨A, c, by simpa using zc4 hg 2 (.bool true), h3, h4, h5⟩, .inr ⟨rfl, hk, hlt⟩⟩, hq.hB.setCell h3 _, h.ge, fun p hp => ⟨(hq.hF p hp).1, (hq.hF p hp).2.1, (Below.heap_setCell (w.drewN m) ⟨gr, 2, none⟩ (.bool true) p.1 (hq.hF p hp).2.1).trans (hq.hF p hp).2.2⟩, Kd.R_far (p := ⟨gr, 2, none⟩) hq.hr (fun k hk => hk.1) _⟩
  rcases h2 with ⟨rfl, rfl, hk⟩ | ⟨rfl, hk, hlt⟩
  · by_cases hs : L.length < k + n
    · rw [if_pos hs]
      refine (zhg (n := n) (A := A) (c := c) h1 hl hk hn hs).mono ?_
      rintro e w' ⟨rfl, hm⟩
      exact ⟨_, rfl, hbad w' hm hk hs, Kd.R_nil _ _ _ _ _⟩
    · rw [if_neg hs]
      obtain ⟨ad, rfl, _⟩ := h4.2.2 (by omega)
      refine (zh8 (n := n) ad h1 h4 h.hB h3 h5 hl (by omega)).mono ?_
      rintro e w' ⟨v1, rfl, q1, q2, q3, q4⟩
      exact ⟨v1, rfl, ⟨⟨k + n, false, ⟨some ad, c, q2, h3, h4, h5⟩, .inl ⟨rfl, rfl, by omega⟩⟩, q3, h.ge, fun p hp => ⟨(h.hF p hp).1, (h.hF p hp).2.1, q4.blk (h.hF p hp).2.2 (h.hF p hp).2.1 (by simp)⟩, Kd.R_keep h.hr q4 (fun _ hk => hk.1)⟩, Kd.zbi q1 h.hB.size⟩
  · rw [if_pos (by omega)]
    refine (bytes_bad (n := n) (A := A) (c := c) h1 hl hk hn).mono ?_
    rintro e w' ⟨rfl, hm⟩
    exact ⟨_, rfl, hbad w' hm hk (by omega), Kd.R_nil _ _ _ _ _⟩
end
section
variable {W w w1 : World} {gr : Nat} {L : List Int} {K : Nat} {F : List (Nat × Obj)} {v : Value} {xs : List S65}
/-- A segment is hung on: the block gs is done with. -/
theorem RS.app {gs gi : Nat} {so : Obj} {e0 : Int} {v' : Value} {xs' : List S65} (h : RS W w gr L K ((gs, so) :: (gi, .cells #[.int .u32 e0, v] 40 (0, 0)) :: F) v xs)
    (ho : Kd.R k65 65 w1 W.heap.size (fun k => k ≠ gr ∧ ∀ p, p ∈ ((gs, so) :: (gi, .cells #[.int .u32 e0, v] 40 (0, 0)) :: F) → k ≠ p.1) v' xs') (hB : Below W.heap.size W w1) (hg : w.grownBy w1 v.ownBlock) (hd : ∀ p, p ∈ F → p.1 ≠ gi) :
    RS W (w1.setCell ⟨gi, 1, none⟩ v') gr L K ((gi, .cells #[.int .u32 e0, v'] 40 (0, 0)) :: F) v' xs' := by
  obtain ⟨k, bad, h1, h2⟩ := h.hI
  have hgi := h.hF (gi, .cells #[.int .u32 e0, v] 40 (0, 0)) (List.mem_cons_of_mem _ List.mem_cons_self)
  have hown : ∀ g, (g = gr ∨ ∃ p, p ∈ ((gi, Obj.cells #[.int .u32 e0, v] 40 (0, 0)) :: F) ∧ g = p.1) → some g ≠ v.ownBlock := by
    intro g hq e
    have hh := h.hr.1 g e.symm
    rcases hq with rfl | ⟨p, hp, rfl⟩
    · exact hh.1 rfl
    · exact hh.2 p (List.mem_cons_of_mem _ hp) rfl
  refine ⟨⟨k, bad, (h1.grown hg (hown gr (.inl rfl))).far (p := ⟨gi, 1, none⟩) hgi.2.1.symm v', h2⟩, hB.setCell hgi.1 v', h.ge, fun p hp => ?_, ?_⟩
  · rcases List.mem_cons.1 hp with rfl | hp
    · have hb := zb3 hgi.2.2 hg (hown gi (.inr ⟨_, List.mem_cons_self, rfl⟩))
      exact ⟨hgi.1, hgi.2.1, by simpa using zc4 hb 1 v'⟩
    · have hq := h.hF p (List.mem_cons_of_mem _ (List.mem_cons_of_mem _ hp))
      have hlt := za3 hq.2.2
      exact ⟨hq.1, hq.2.1, (Below.heap_setCell w1 ⟨gi, 1, none⟩ v' p.1 (hd p hp)).trans ((hg.block p.1 hlt (hown p.1 (.inr ⟨p, List.mem_cons_of_mem _ hp, rfl⟩))).trans hq.2.2)⟩
  · refine Kd.zbk (Kd.R_far ho (p := ⟨gi, 1, none⟩) (fun k hk => hk.2 (gi, .cells #[.int .u32 e0, v] 40 (0, 0)) (List.mem_cons_of_mem _ List.mem_cons_self)) v') (fun k hk => ⟨hk.1, fun p hp => ?_⟩)
    rcases List.mem_cons.1 hp with rfl | hp
    · show k ≠ gi
      exact hk.2 (gi, .cells #[.int .u32 e0, v] 40 (0, 0)) (List.mem_cons_of_mem _ List.mem_cons_self)
    · exact hk.2 p (List.mem_cons_of_mem _ (List.mem_cons_of_mem _ hp))
end
theorem RS.own {W w : World} {gr : Nat} {L : List Int} {K : Nat} {F : List (Nat × Obj)} {v : Value} {xs : List S65} (h : RS W w gr L K F v xs) : ∀ g, (g = gr ∨ ∃ p, p ∈ F ∧ g = p.1) → some g ≠ v.ownBlock := by
  intro g hq e
  have hh := h.hr.1 g e.symm
  rcases hq with rfl | ⟨p, hp, rfl⟩
  · exact hh.1 rfl
  · exact hh.2 p hp rfl
def segs (L : List Int) (j : Nat) : List S30 := (List.range j).map (fun q => segAt L (52 + 32 * q))
theorem zik (L : List Int) (j : Nat) : segs L (j + 1) = segs L j ++ [segAt L (52 + 32 * j)] := by simp [segs, List.range_succ]
theorem zc3 (L : List Int) (j : Nat) : (segs L j).length = j := by simp [segs]
theorem zcd {L : List Int} (hL : Bytes L) (K s : Nat) : 0 ≤ gotV L K s ∧ gotV L K s < 256 ^ s := by
  unfold gotV
  split
  · exact ⟨by omega, Int.pow_pos (by decide)⟩
  · exact zd0 (hL.drop K) s
theorem zbv {L : List Int} {K s : Nat} (h : K + s ≤ L.length) : gotV L K s = le s (L.drop K) := by unfold gotV; rw [if_neg (by omega)]
theorem okSeg_got {L : List Int} {K : Nat} : okSeg L K ↔ (K + 32 ≤ L.length ∧ gotV L K 4 = 1 ∧ gotV L (K + 12) 4 = gotV L (K + 8) 4 ∧ gotV L (K + 24) 4 ≤ 7 ∧ gotV L (K + 28) 4 = 256 ∧ gotV L (K + 4) 4 + gotV L (K + 16) 4 ≤ L.length) := by
  unfold okSeg fld
  by_cases h : K + 32 ≤ L.length
  · rw [zbv (by omega), zbv (by omega), zbv (by omega), zbv (by omega), zbv (by omega), zbv (by omega), zbv (by omega)]
    exact Iff.rfl
  · exact ⟨fun x => absurd x.1 h, fun x => absurd x.1 h⟩
theorem zil {L : List Int} {K : Nat} (h : K + 32 ≤ L.length) : segAt L K = ⟨gotV L (K + 8) 4, gotV L (K + 20) 4, turn (gotV L (K + 24) 4), (L.take (gotV L (K + 4) 4 + gotV L (K + 16) 4).toNat).drop (gotV L (K + 4) 4).toNat⟩ := by
  unfold segAt fld
  rw [zbv (by omega), zbv (by omega), zbv (by omega), zbv (by omega), zbv (by omega)]
/-- All of the segments, or none. -/
theorem zhr (L : List Int) (d : Nat) : ∀ i, readS L d i = if (∀ q, q < d → okSeg L (52 + 32 * (i + q))) then some ((List.range d).map (fun q => segAt L (52 + 32 * (i + q)))) else none := by
  induction d with
  | zero => intro i; simp [readS]
  | succ d ih =>
    intro i
    rw [readS, ih (i + 1)]
    by_cases h0 : okSeg L (52 + 32 * i)
    · rw [if_pos h0]
      by_cases h1 : ∀ q, q < d → okSeg L (52 + 32 * (i + 1 + q))
      · rw [if_pos h1, if_pos]
        · rw [List.range_succ_eq_map, List.map_cons, List.map_map, Option.map_some]
          simp [Function.comp_def, Nat.add_assoc, Nat.add_comm 1]
        · intro q hq
          cases q with
          | zero => exact h0
          | succ q => have := h1 q (by omega); rwa [show i + 1 + q = i + (q + 1) by omega] at this
      · rw [if_neg h1, if_neg]
        · rfl
        · intro h
          exact h1 (fun q hq => by have := h (q + 1) (by omega); rwa [show i + (q + 1) = i + 1 + q by omega] at this)
    · rw [if_neg h0, if_neg]
      intro h
      exact h0 (by have := h 0 (by omega); simpa using this)
theorem getI_many {L : List Int} (h : zdr L) (h8 : n2 L 44 > 8) : getI L = (0, [], 2) := by rw [getI, if_pos h, if_pos h8]
theorem zgt {L : List Int} {nn j : Nat} (h : zdr L) (hn : n2 L 44 = (nn : Int)) (h8 : nn ≤ 8) (hj : j < nn) (hs : ¬ okSeg L (52 + 32 * j)) : getI L = (0, [], 3) := by
  rw [getI, if_pos h, hn, if_neg (by omega), zhr, if_neg]
  intro hh
  exact hs (by have := hh j (by omega); simpa using this)
theorem getI_all {L : List Int} {nn : Nat} (h : zdr L) (hn : n2 L 44 = (nn : Int)) (h8 : nn ≤ 8) (hs : ∀ q, q < nn → okSeg L (52 + 32 * q)) : getI L = done (n4 L 24) (segs L nn) := by
  rw [getI, if_pos h, hn, if_neg (by omega), zhr, if_pos (fun q hq => by have := hs q (by omega); simpa using this)]
  simp [segs]
def refI (L : List Int) : Int × List S65 × Int := ((getI L).1, (getI L).2.1.map c65, (getI L).2.2)
def zhk (W : World) (L : List Int) (e : Ending) (w' : World) : Prop :=
  ∃ v, e = .returned (.tuple #[.agg #[.int .u32 (refI L).1, v], .int .i64 (refI L).2.2]) ∧ Kd.R k65 65 w' W.heap.size (fun _ => True) v (refI L).2.1 ∧ Below W.heap.size W w'
theorem zeg {L : List Int} (hL : Bytes L) (K : Nat) : 0 ≤ le 4 (L.drop K) ∧ le 4 (L.drop K) < 4294967296 := zd0 (hL.drop K) 4
theorem segs_wf {L : List Int} (hL : Bytes L) (hl : L.length ≤ 3000) (j : Nat) : ∀ s, s ∈ segs L j → Wf1 s := by
  intro s hs
  obtain ⟨q, _, rfl⟩ := List.mem_map.1 hs
  refine ⟨(zeg hL _).1, (zeg hL _).2, (zeg hL _).1, (zeg hL _).2, ?_⟩
  show ((L.take _).drop _).length ≤ 100000
  rw [List.length_drop, List.length_take]
  omega
theorem fin_ok {W w : World} {gr gi K : Nat} {L : List Int} {e0 : Int} {v : Value} {xs : List S65} (h : RS W w gr L K [(gi, .cells #[.int .u32 e0, v] 40 (0, 0)), (W.heap.size, .cells #[.int .u32 0, .slice none 0 0] 40 (0, 0))] v xs) (he : refI L = (e0, xs, 0))
    (tm : Array Value) (e2 : tm.getD 2 undef = .pointer (some ⟨W.heap.size, 0, none⟩)) (e3 : tm.getD 3 undef = .int .i64 0) :
    bodyPost Try.prog Try.f14 (zhk W L) Exit.ret ⟨tm, []⟩ ((w.setCell ⟨W.heap.size, 0, none⟩ (.int .u32 e0)).setCell ⟨W.heap.size, 1, none⟩ v) := by
  have hb := h.hB
  have h2 := (h.hF _ (List.mem_cons_of_mem _ List.mem_cons_self)).2.2
  have hw := zc4 (zc4 h2 0 (.int .u32 e0)) 1 v
  refine bodyPost_ret (zca (P := Try.prog) (ty := 40) (p := 2) (u := 3) rfl tm _ W.heap.size 40 #[.int .u32 e0, v] (0, 0) _ e2 (by simpa using hw) Try.underlying40 rfl (by kernel_rfl)) rfl ?_
  rw [e3]
  refine ⟨v, by rw [he], ?_, ?_⟩
  · rw [he]
    have hk : ∀ k, (k ≠ gr ∧ ∀ p, p ∈ [(gi, Obj.cells #[.int .u32 e0, v] 40 (0, 0)), (W.heap.size, Obj.cells #[.int .u32 0, .slice none 0 0] 40 (0, 0))] → k ≠ p.1) → k ≠ W.heap.size := fun k hk => hk.2 _ (List.mem_cons_of_mem _ List.mem_cons_self)
    exact Kd.zbk (Kd.R_far (p := ⟨W.heap.size, 1, none⟩) (Kd.R_far (p := ⟨W.heap.size, 0, none⟩) h.hr hk _) hk _) (fun _ _ => trivial)
  · exact (hb.setCell (Nat.le_refl _) _).setCell (Nat.le_refl _) _
end Go.Proofs.Ytcjaepmecihmlaa.RefImg
