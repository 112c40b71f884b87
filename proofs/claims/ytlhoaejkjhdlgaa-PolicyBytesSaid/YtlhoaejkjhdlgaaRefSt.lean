/- The memory of the reference's GetPolicy; what any bytes are, in the reference's own values. -/
import Derived.Test.YtlhoaejkjhdlgaaRefBytes
import Derived.Test.YtlhoaejkjhdlgaaPutPure
namespace Go.Proofs.Ytlhoaejkjhdlgaa.RefGet
open Go Go.RowKit Go.Proofs.Ytlhoaejkjhdlgaa.PPolicyBytes Go.Proofs.YtlhoaejkjhdlgaaW.PrintWords Go.Proofs.YtlhoaejkjhdlgaaW.PrintLast Go.Proofs.YtlhoaejkjhdlgaaW.PrintMore Go.Proofs.Ytlhoaejkjhdlgaa.Reader Go.Proofs.Ytlhoaejkjhdlgaa.RefRd Go.Proofs.Ytlhoaejkjhdlgaa.Good Go.Proofs.Ytlhoaejkjhdlgaa.Get Go.Proofs.Ytlhoaejkjhdlgaa.PutPure
set_option linter.unusedVariables false
set_option linter.unusedSimpArgs false
/-- The reader at gr, the policy at gp, the result at g2; K bytes have been asked for. -/
structure TS (W w : World) (gr gp g2 : Nat) (L : List Int) (K : Nat) (ptr : Bool) (v1 v2 : Value) (xs : List S70) (ys : List S71) : Prop where
  hI : ∃ k bad, IsS67 W w gr L ((k : Nat) : Int) bad ∧ Pos L K k bad
  hp : w.heap[gp]? = some (.cells #[.bool ptr, v1, v2] 46 (0, 0))
  h2 : w.heap[g2]? = some (.cells #[.bool false, .slice none 0 0, .slice none 0 0] 46 (0, 0))
  hr1 : Kd.R k70 70 w W.heap.size (fun k => k ≠ gr ∧ k ≠ gp ∧ k ≠ g2) v1 xs
  hr2 : Kd.R k71 71 w W.heap.size (fun k => k ≠ gr ∧ k ≠ gp ∧ k ≠ g2) v2 ys
  hB : Below W.heap.size W w
  ge : W.heap.size ≤ gr ∧ W.heap.size ≤ gp ∧ W.heap.size ≤ g2
  ne : gr ≠ gp ∧ gr ≠ g2 ∧ gp ≠ g2
section
variable {W w w1 : World} {gr gp g2 : Nat} {L : List Int} {K : Nat} {ptr : Bool} {v1 v2 : Value} {xs : List S70} {ys : List S71}
theorem TS.below (h : TS W w gr gp g2 L K ptr v1 v2 xs ys) (hb : Below w.heap.size w w1) : TS W w1 gr gp g2 L K ptr v1 v2 xs ys := by
  obtain ⟨k, bad, h1, h2⟩ := h.hI
  exact ⟨⟨k, bad, h1.below hb, h2⟩, blk_below h.hp hb, blk_below h.h2 hb, Kd.R_below h.hr1 hb, Kd.R_below h.hr2 hb, below_step h.hB hb, h.ge, h.ne⟩
theorem TS.num (h : TS W w gr gp g2 L K ptr v1 v2 xs ys) (hL : Bytes L) (hl : L.length ≤ 1000000) (s : Nat) (hs : s ≤ 4) :
    Calls Try.prog 28 #[.pointer (some ⟨gr, 0, none⟩), .int .i64 (s : Int)] w fun e w' => e = .returned (.int .u32 (gotV L K s)) ∧ TS W w' gr gp g2 L (K + s) ptr v1 v2 xs ys := by
  obtain ⟨k, bad, h1, h2⟩ := h.hI
  refine (num_call gr L K k s bad W w hL hl hs h1 h2 h.hB).mono ?_
  rintro e w' ⟨rfl, k', bad', q1, q2, q3, q4⟩
  exact ⟨rfl, ⟨⟨k', bad', q1, q2⟩, q4.blk h.hp h.ne.1.symm (by simp), q4.blk h.h2 h.ne.2.1.symm (by simp), Kd.R_keep h.hr1 q4 (fun _ hk => hk.1), Kd.R_keep h.hr2 q4 (fun _ hk => hk.1), q3, h.ge, h.ne⟩⟩
theorem TS.lt (h : TS W w gr gp g2 L K ptr v1 v2 xs ys) : gr < w.heap.size ∧ gp < w.heap.size ∧ g2 < w.heap.size := by
  obtain ⟨k, bad, h1, _⟩ := h.hI
  exact ⟨h1.lt, blk_lt h.hp, blk_lt h.h2⟩
theorem TS.fresh (h : TS W w gr gp g2 L K ptr v1 v2 xs ys) : ∀ k, w.heap.size ≤ k → k ≠ gr ∧ k ≠ gp ∧ k ≠ g2 := by
  intro k hk
  have := h.lt
  omega
theorem TS.row1 (h : TS W w gr gp g2 L K ptr v1 v2 xs ys) (g : Nat) (hg : g = gr ∨ g = gp ∨ g = g2) : some g ≠ v1.ownBlock := by
  intro e
  have := h.hr1.1 g e.symm
  omega
theorem TS.row2 (h : TS W w gr gp g2 L K ptr v1 v2 xs ys) (g : Nat) (hg : g = gr ∨ g = gp ∨ g = g2) : some g ≠ v2.ownBlock := by
  intro e
  have := h.hr2.1 g e.symm
  omega
/-- The bits of the policy are stored. -/
theorem TS.flag (h : TS W w gr gp g2 L K ptr v1 v2 xs ys) (p : Bool) : TS W (w.setCell ⟨gp, 0, none⟩ (.bool p)) gr gp g2 L K p v1 v2 xs ys := by
  obtain ⟨k, bad, h1, h2⟩ := h.hI
  exact ⟨⟨k, bad, h1.far (p := ⟨gp, 0, none⟩) h.ne.1 _, h2⟩, blk_set h.hp 0 _, blk_far h.h2 h.ne.2.2.symm _, Kd.R_far h.hr1 (fun _ hk => hk.2.1) _, Kd.R_far h.hr2 (fun _ hk => hk.2.1) _, h.hB.setCell h.ge.2.1 _, h.ge, h.ne⟩
theorem TS.app1 (h : TS W w gr gp g2 L K ptr v1 (.slice none 0 0) xs []) {v : Value} {xs' : List S70} (ho : Kd.R k70 70 w1 W.heap.size (fun k => k ≠ gr ∧ k ≠ gp ∧ k ≠ g2) v xs') (hB : Below W.heap.size W w1) (hg : w.grownBy w1 v1.ownBlock) :
    TS W (w1.setCell ⟨gp, 1, none⟩ v) gr gp g2 L K ptr v (.slice none 0 0) xs' [] := by
  obtain ⟨k, bad, h1, h2⟩ := h.hI
  refine ⟨⟨k, bad, (h1.grown hg (h.row1 gr (by omega))).far (p := ⟨gp, 1, none⟩) h.ne.1 _, h2⟩, ?_, blk_far (blk_grown h.h2 hg (h.row1 g2 (by omega))) h.ne.2.2.symm v, Kd.R_far ho (fun _ hk => hk.2.1) v, Kd.R_nil _ _ _ _ _, hB.setCell h.ge.2.1 v, h.ge, h.ne⟩
  simpa using blk_set (blk_grown h.hp hg (h.row1 gp (by omega))) 1 v
theorem TS.app2 (h : TS W w gr gp g2 L K ptr v1 v2 xs ys) {v : Value} {ys' : List S71} (ho : Kd.R k71 71 w1 W.heap.size (fun k => k ≠ gr ∧ k ≠ gp ∧ k ≠ g2) v ys') (hB : Below W.heap.size W w1) (hg : w.grownBy w1 v2.ownBlock) :
    TS W (w1.setCell ⟨gp, 2, none⟩ v) gr gp g2 L K ptr v1 v xs ys' := by
  obtain ⟨k, bad, h1, h2⟩ := h.hI
  have hr1 : Kd.R k70 70 w1 W.heap.size (fun k => k ≠ gr ∧ k ≠ gp ∧ k ≠ g2) v1 xs := by
    refine Kd.R_mono (Kd.R_grown (Kd.R_bound h.hr1) hg ?_) (fun _ hk => hk.1)
    rintro j ⟨_, _, _, q, hq, cells, hc⟩ e
    obtain ⟨inner, hown⟩ := Kd.R_own h.hr2
    obtain ⟨cells', hc'⟩ := own_typed hown j e.symm
    rw [hc] at hc'
    injection hc' with hc'
    injection hc' with _ ht
    have h35 : q = 70 := by simpa [k70, Kd.iso, Kd.pair, Kd.int, Kd.scalar] using hq
    subst h35
    exact absurd ht (by decide)
  refine ⟨⟨k, bad, (h1.grown hg (h.row2 gr (by omega))).far (p := ⟨gp, 2, none⟩) h.ne.1 _, h2⟩, ?_, blk_far (blk_grown h.h2 hg (h.row2 g2 (by omega))) h.ne.2.2.symm v, Kd.R_far hr1 (fun _ hk => hk.2.1) v, Kd.R_far ho (fun _ hk => hk.2.1) v, hB.setCell h.ge.2.1 v, h.ge, h.ne⟩
  simpa using blk_set (blk_grown h.hp hg (h.row2 gp (by omega))) 2 v
/-- Further along: a reader that has failed has failed. -/
theorem TS.on (h : TS W w gr gp g2 L K ptr v1 v2 xs ys) {K' : Nat} (hk : K ≤ K') (hlt : L.length < K) : TS W w gr gp g2 L K' ptr v1 v2 xs ys := by
  obtain ⟨k, bad, h1, h2⟩ := h.hI
  refine ⟨⟨k, bad, h1, ?_⟩, h.hp, h.h2, h.hr1, h.hr2, h.hB, h.ge, h.ne⟩
  rcases h2 with ⟨_, _, h4⟩ | ⟨h3, h4, h5⟩
  · omega
  · exact .inr ⟨h3, h4, by omega⟩
/-- The reader's cell: has it failed? -/
theorem TS.badc (h : TS W w gr gp g2 L K ptr v1 v2 xs ys) : w.cell? ⟨gr, 2, none⟩ = some (.bool (decide (L.length < K))) := by
  obtain ⟨k, bad, ⟨A, c, h1, _⟩, h2⟩ := h.hI
  have e : bad = decide (L.length < K) := by
    rcases h2 with ⟨h3, _, h4⟩ | ⟨h3, _, h5⟩
    · rw [h3, decide_eq_false (by omega)]
    · rw [h3, decide_eq_true h5]
  rw [← e]
  exact (blk_cell h1 2).trans rfl
theorem TS.atc (h : TS W w gr gp g2 L K ptr v1 v2 xs ys) (hk : K ≤ L.length) : w.cell? ⟨gr, 1, none⟩ = some (.int .i64 K) := by
  obtain ⟨k, bad, ⟨A, c, h1, _⟩, h2⟩ := h.hI
  rcases h2 with ⟨h3, h4, _⟩ | ⟨h3, _, h5⟩
  · rw [← h4]; exact (blk_cell h1 1).trans rfl
  · omega
end
theorem info70 : (Try.prog.info? 70).map (fun i => (i.zero, i.size, i.bytes)) = some (some (.agg #[(.int .i64 0), (.int .u32 0), (.int .u32 0), (.int .u8 0)]), 4, 24) := by kernel_rfl
theorem info71 : (Try.prog.info? 71).map (fun i => (i.zero, i.size, i.bytes)) = some (some (.agg #[(.int .i64 0), (.int .i64 0), (.int .u8 0)]), 3, 24) := by kernel_rfl
theorem gotV_one (L : List Int) (K : Nat) : gotV L K 1 = B L K := by
  unfold gotV B
  by_cases h : L.length < K + 1
  · rw [if_pos h, List.drop_eq_nil_of_le (by omega)]; rfl
  · rw [if_neg h]
    simp [le]
theorem gotV_bound {L : List Int} (hL : Bytes L) (K s : Nat) : 0 ≤ gotV L K s ∧ gotV L K s < 256 ^ s := by
  unfold gotV
  split
  · exact ⟨by omega, Int.pow_pos (by decide)⟩
  · exact le_bound (hL.drop K) s
/-- The source that is read at K. -/
def rsrc (L : List Int) (K : Nat) : S70 := ⟨gotV L K 1, gotV L (K + 1) 4, gotV L (K + 5) 4, gotV L (K + 9) 1⟩
def rsnk (L : List Int) (K : Nat) : S71 := ⟨gotV L K 1, gotV L (K + 1) 1, gotV L (K + 2) 1⟩
theorem rsrc_eq {L : List Int} {K : Nat} (h : K + 10 ≤ L.length) : rsrc L K = cS (srcAt L K) := by
  unfold rsrc srcAt cS
  simp only [gotV_one]
  have e1 : gotV L (K + 1) 4 = le 4 (L.drop (K + 1)) := by unfold gotV; rw [if_neg (by omega)]
  have e2 : gotV L (K + 5) 4 = le 4 (L.drop (K + 5)) := by unfold gotV; rw [if_neg (by omega)]
  rw [e1, e2]
theorem rsnk_eq (L : List Int) (K : Nat) : rsnk L K = cK (snkAt L K) := by
  unfold rsnk snkAt cK
  simp only [gotV_one]
def refP (L : List Int) : Bool × List S70 × List S71 × Bool := if isP L then (B L 3 == 1, (srcs L (cntA L)).map cS, (snks L (6 + 10 * cntA L) (cntB L)).map cK, true) else (false, [], [], false)
def RefPost (W : World) (L : List Int) (e : Ending) (w' : World) : Prop :=
  ∃ v1 v2, e = .returned (.tuple #[.agg #[.bool (refP L).1, v1, v2], .bool (refP L).2.2.2]) ∧ Kd.R k70 70 w' W.heap.size (fun _ => True) v1 (refP L).2.1 ∧ Kd.R k71 71 w' W.heap.size (fun _ => True) v2 (refP L).2.2.1 ∧ Below W.heap.size W w'
end Go.Proofs.Ytlhoaejkjhdlgaa.RefGet
