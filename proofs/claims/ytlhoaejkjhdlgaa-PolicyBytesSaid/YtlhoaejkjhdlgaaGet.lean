/- What policy.Get reads of any bytes: the walk of the program's Get, against a plain function on lists. -/
import Derived.Test.YtlhoaejkjhdlgaaReader
import Derived.Test.YtlhoaejkjhdlgaaGood
import Derived.WalkKit
import Derived.Outline
namespace Go.Proofs.Ytlhoaejkjhdlgaa.Get
open Go Go.RowKit Go.Proofs.Ytlhoaejkjhdlgaa.PPolicyBytes Go.Proofs.YtlhoaejkjhdlgaaW.PrintWords Go.Proofs.YtlhoaejkjhdlgaaW.PrintLast Go.Proofs.YtlhoaejkjhdlgaaW.PrintMore Go.Proofs.Ytlhoaejkjhdlgaa.Reader Go.Proofs.Ytlhoaejkjhdlgaa.Good
set_option linter.unusedVariables false
set_option linter.unusedSimpArgs false

/-- Byte i, 0 where there is none. -/
def B (l : List Int) (i : Nat) : Int := (l.drop i).headD 0
def srcAt (l : List Int) (i : Nat) : S35 := ⟨B l i, le 4 (l.drop (i + 1)), le 4 (l.drop (i + 5)), B l (i + 9)⟩
def snkAt (l : List Int) (i : Nat) : S37 := ⟨B l i, B l (i + 1), B l (i + 2)⟩
def srcs (l : List Int) (n : Nat) : List S35 := (List.range n).map fun j => srcAt l (5 + 10 * j)
def snks (l : List Int) (at_ m : Nat) : List S37 := (List.range m).map fun j => snkAt l (at_ + 3 * j)
theorem srcs_succ (l : List Int) (n : Nat) : srcs l (n + 1) = srcs l n ++ [srcAt l (5 + 10 * n)] := by simp [srcs, List.range_succ]
theorem snks_succ (l : List Int) (a n : Nat) : snks l a (n + 1) = snks l a n ++ [snkAt l (a + 3 * n)] := by simp [snks, List.range_succ]
theorem srcs_length (l : List Int) (n : Nat) : (srcs l n).length = n := by simp [srcs]
theorem snks_length (l : List Int) (a n : Nat) : (snks l a n).length = n := by simp [snks]

theorem readOne (g : Nat) (L : List Int) (k : Nat) (b : Int) (hb : B L k = b) (w0 w : World) (hI : IsR w0 w g (L.drop k) (decide (L.length < k))) (hB : Below w0.heap.size w0 w) :
    Calls Try.prog 22 #[.pointer (some ⟨g, 0, none⟩)] w fun e w' => e = .returned (.int .u8 b) ∧ After w0 w g (.int .u8 b) (L.drop (k + 1)) (decide (L.length < k + 1)) e w' := by
  have e : (L.drop k).isEmpty = decide (L.length ≤ k) := by
    rw [Bool.eq_iff_iff, List.isEmpty_iff, decide_eq_true_iff, List.drop_eq_nil_iff]
  refine (one_at g (L.drop k) (L.drop (k + 1)) _ (decide (L.length < k + 1)) b hb (by rw [List.tail_drop]) ?_ w0 w hI hB).mono fun e w' h => ⟨h.1, h⟩
  rw [e, ← Bool.decide_or]
  congr 1
  rw [eq_iff_iff]
  omega
theorem readFour (g : Nat) (L : List Int) (k : Nat) (b : Int) (hb : le 4 (L.drop k) = b) (hL : Bytes L) (w0 w : World) (hI : IsR w0 w g (L.drop k) (decide (L.length < k))) (hB : Below w0.heap.size w0 w) :
    Calls Try.prog 23 #[.pointer (some ⟨g, 0, none⟩)] w fun e w' => e = .returned (.int .u32 b) ∧ After w0 w g (.int .u32 b) (L.drop (k + 4)) (decide (L.length < k + 4)) e w' := by
  subst hb
  refine (four g (L.drop k) _ w0 w (hL.drop k) hI hB).mono fun e w' h => ⟨h.1, ?_⟩
  rw [List.drop_drop, List.length_drop, ← Bool.decide_or] at h
  rw [show (decide (L.length < k + 4)) = decide (L.length < k ∨ L.length - k < 4) from by congr 1; rw [eq_iff_iff]; omega]
  exact h
/-- The state of Get's memory: the reader at gr, the policy at gp, the result at g2, a struct of its own at gs. -/
structure St (W w : World) (gr gp gs g2 : Nat) (L : List Int) (k : Nat) (ptr : Bool) (v1 v2 : Value) (xs : List S35) (ys : List S37) (t : Nat) (sc : Array Value) : Prop where
  hI : IsR W w gr (L.drop k) (decide (L.length < k))
  hp : w.heap[gp]? = some (.cells #[.bool ptr, v1, v2] 26 (0, 0))
  hs : w.heap[gs]? = some (.cells sc t (0, 0))
  h2 : w.heap[g2]? = some (.cells #[.bool false, .slice none 0 0, .slice none 0 0] 26 (0, 0))
  hr1 : Kd.R k35 35 w W.heap.size (fun k => k ≠ gr ∧ k ≠ gp ∧ k ≠ gs ∧ k ≠ g2) v1 xs
  hr2 : Kd.R k37 37 w W.heap.size (fun k => k ≠ gr ∧ k ≠ gp ∧ k ≠ gs ∧ k ≠ g2) v2 ys
  hB : Below W.heap.size W w
  ge : W.heap.size ≤ gr ∧ W.heap.size ≤ gp ∧ W.heap.size ≤ gs ∧ W.heap.size ≤ g2
  ne : gr ≠ gp ∧ gr ≠ gs ∧ gr ≠ g2 ∧ gp ≠ gs ∧ gp ≠ g2 ∧ gs ≠ g2
section
variable {W w : World} {gr gp gs g2 : Nat} {L : List Int} {k : Nat} {ptr : Bool} {v1 v2 : Value} {xs : List S35} {ys : List S37} {t : Nat} {sc : Array Value}
theorem St.call (h : St W w gr gp gs g2 L k ptr v1 v2 xs ys t sc) {w1 : World} {k' : Nat} {v : Value} {e : Ending} (ha : After W w gr v (L.drop k') (decide (L.length < k')) e w1) :
    St W w1 gr gp gs g2 L k' ptr v1 v2 xs ys t sc :=
  have hI := ha.2.1; have hB := ha.2.2.1; have hk := ha.2.2.2
  ⟨hI, hk.blk h.hp h.ne.1.symm (by simp), hk.blk h.hs h.ne.2.1.symm (by simp), hk.blk h.h2 h.ne.2.2.1.symm (by simp), Kd.R_keep h.hr1 hk (fun _ hk => hk.1), Kd.R_keep h.hr2 hk (fun _ hk => hk.1), hB, h.ge, h.ne⟩
theorem St.set_s (h : St W w gr gp gs g2 L k ptr v1 v2 xs ys t sc) (j : Nat) (u : Value) :
    St W (w.setCell ⟨gs, j, none⟩ u) gr gp gs g2 L k ptr v1 v2 xs ys t (sc.setIfInBounds j u) := by
  obtain ⟨A, c, h1, hg, h3, h4⟩ := h.hI
  exact ⟨⟨A, c, blk_far h1 h.ne.2.1 u, hg, h3, h4⟩, blk_far h.hp h.ne.2.2.2.1 u, blk_set h.hs j u, blk_far h.h2 h.ne.2.2.2.2.2.symm u, Kd.R_far h.hr1 (fun _ hk => hk.2.2.1) u, Kd.R_far h.hr2 (fun _ hk => hk.2.2.1) u, h.hB.setCell h.ge.2.2.1 u, h.ge, h.ne⟩
theorem St.below (h : St W w gr gp gs g2 L k ptr v1 v2 xs ys t sc) {w1 : World} (hb : Below w.heap.size w w1) : St W w1 gr gp gs g2 L k ptr v1 v2 xs ys t sc :=
  ⟨h.hI.below hb, blk_below h.hp hb, blk_below h.hs hb, blk_below h.h2 hb, Kd.R_below h.hr1 hb, Kd.R_below h.hr2 hb, below_step h.hB hb, h.ge, h.ne⟩
/-- A new struct is laid. -/
theorem St.new_s (h : St W w gr gp gs g2 L k ptr v1 v2 xs ys t sc) (t' : Nat) (sc' : Array Value) : St W (w.alloc (.cells sc' t' (0, 0))) gr gp w.heap.size g2 L k ptr v1 v2 xs ys t' sc' := by
  have hb := Below.alloc (Below.refl w.heap.size w) (Nat.le_refl _) (.cells sc' t' (0, 0))
  have k := h.below hb
  have hl1 := blk_lt h.hp
  have hl2 := blk_lt h.h2
  have hl3 : gr < w.heap.size := by obtain ⟨A, c, h1, _⟩ := h.hI; exact blk_lt h1
  refine ⟨k.hI, k.hp, blk_new _ _, k.h2, ?_, ?_, k.hB, ⟨h.ge.1, h.ge.2.1, h.hB.size, h.ge.2.2.2⟩, ⟨h.ne.1, by omega, h.ne.2.2.1, by omega, h.ne.2.2.2.2.1, by omega⟩⟩
  · exact Kd.R_below (Kd.R_mono (Kd.R_bound h.hr1) (fun k hk => ⟨hk.1.1, hk.1.2.1, by have := hk.2.2.1; omega, hk.1.2.2.2⟩)) hb
  · exact Kd.R_below (Kd.R_mono (Kd.R_bound h.hr2) (fun k hk => ⟨hk.1.1, hk.1.2.1, by have := hk.2.2.1; omega, hk.1.2.2.2⟩)) hb
end
theorem info35 : (Try.prog.info? 35).map (fun i => (i.zero, i.size, i.bytes)) = some (some (.agg #[(.int .i64 0), (.int .u32 0), (.int .u32 0), (.int .u8 0)]), 4, 24) := by kernel_rfl
theorem info37 : (Try.prog.info? 37).map (fun i => (i.zero, i.size, i.bytes)) = some (some (.agg #[(.int .i64 0), (.int .i64 0), (.int .u8 0)]), 3, 24) := by kernel_rfl
section
variable {W w : World} {gr gp gs g2 : Nat} {L : List Int} {k : Nat} {ptr : Bool} {v1 v2 : Value} {xs : List S35} {ys : List S37} {t : Nat} {sc : Array Value}
theorem St.fresh (h : St W w gr gp gs g2 L k ptr v1 v2 xs ys t sc) : ∀ k, w.heap.size ≤ k → k ≠ gr ∧ k ≠ gp ∧ k ≠ gs ∧ k ≠ g2 := by
  intro k hk
  have h1 := blk_lt h.hp
  have h2 := blk_lt h.h2
  have h3 := blk_lt h.hs
  have h4 : gr < w.heap.size := by obtain ⟨A, c, h1, _⟩ := h.hI; exact blk_lt h1
  omega
theorem St.row1 (h : St W w gr gp gs g2 L k ptr v1 v2 xs ys t sc) (g : Nat) (hg : g = gr ∨ g = gp ∨ g = gs ∨ g = g2) : some g ≠ v1.ownBlock := by
  intro e
  have := h.hr1.1 g e.symm
  omega
theorem St.row2 (h : St W w gr gp gs g2 L k ptr v1 v2 xs ys t sc) (g : Nat) (hg : g = gr ∨ g = gp ∨ g = gs ∨ g = g2) : some g ≠ v2.ownBlock := by
  intro e
  have := h.hr2.1 g e.symm
  omega
theorem St.app1 (h : St W w gr gp gs g2 L k ptr v1 (.slice none 0 0) xs [] t sc) {w1 : World} {v : Value} {xs' : List S35} (ho : Kd.R k35 35 w1 W.heap.size (fun k => k ≠ gr ∧ k ≠ gp ∧ k ≠ gs ∧ k ≠ g2) v xs') (hB : Below W.heap.size W w1) (hg : w.grownBy w1 v1.ownBlock) :
    St W (w1.setCell ⟨gp, 1, none⟩ v) gr gp gs g2 L k ptr v (.slice none 0 0) xs' [] t sc := by
  obtain ⟨A, c, h1, hge, h3, h4⟩ := h.hI
  refine ⟨⟨A, c, blk_far (blk_grown h1 hg (h.row1 gr (by omega))) h.ne.1 v, hge, h3, h4⟩, ?_, blk_far (blk_grown h.hs hg (h.row1 gs (by omega))) h.ne.2.2.2.1.symm v, blk_far (blk_grown h.h2 hg (h.row1 g2 (by omega))) h.ne.2.2.2.2.1.symm v, Kd.R_far ho (fun _ hk => hk.2.1) v, Kd.R_nil _ _ _ _ _, hB.setCell h.ge.2.1 v, h.ge, h.ne⟩
  simpa using blk_set (blk_grown h.hp hg (h.row1 gp (by omega))) 1 v
theorem St.app2 (h : St W w gr gp gs g2 L k ptr v1 v2 xs ys t sc) {w1 : World} {v : Value} {ys' : List S37} (ho : Kd.R k37 37 w1 W.heap.size (fun k => k ≠ gr ∧ k ≠ gp ∧ k ≠ gs ∧ k ≠ g2) v ys') (hB : Below W.heap.size W w1) (hg : w.grownBy w1 v2.ownBlock) :
    St W (w1.setCell ⟨gp, 2, none⟩ v) gr gp gs g2 L k ptr v1 v xs ys' t sc := by
  obtain ⟨A, c, h1, hge, h3, h4⟩ := h.hI
  have hr1 : Kd.R k35 35 w1 W.heap.size (fun k => k ≠ gr ∧ k ≠ gp ∧ k ≠ gs ∧ k ≠ g2) v1 xs := by
    refine Kd.R_mono (Kd.R_grown (Kd.R_bound h.hr1) hg ?_) (fun _ hk => hk.1)
    rintro j ⟨_, _, _, q, hq, cells, hc⟩ e
    obtain ⟨inner, hown⟩ := Kd.R_own h.hr2
    obtain ⟨cells', hc'⟩ := own_typed hown j e.symm
    rw [hc] at hc'
    injection hc' with hc'
    injection hc' with _ ht
    have h35 : q = 35 := by simpa [k35, Kd.iso, Kd.pair, Kd.int, Kd.scalar] using hq
    subst h35
    exact absurd ht (by decide)
  refine ⟨⟨A, c, blk_far (blk_grown h1 hg (h.row2 gr (by omega))) h.ne.1 v, hge, h3, h4⟩, ?_, blk_far (blk_grown h.hs hg (h.row2 gs (by omega))) h.ne.2.2.2.1.symm v, blk_far (blk_grown h.h2 hg (h.row2 g2 (by omega))) h.ne.2.2.2.2.1.symm v, Kd.R_far hr1 (fun _ hk => hk.2.1) v, Kd.R_far ho (fun _ hk => hk.2.1) v, hB.setCell h.ge.2.1 v, h.ge, h.ne⟩
  simpa using blk_set (blk_grown h.hp hg (h.row2 gp (by omega))) 2 v
end

theorem head_iff {b0 b1 b2 : Int} (h0 : 0 ≤ b0 ∧ b0 ≤ 255) (h1 : 0 ≤ b1 ∧ b1 ≤ 255) (h2 : 0 ≤ b2 ∧ b2 ≤ 255) : (strOfNums [b0, b1, b2]).toList = [84, 80, 49] ↔ (b0 = 84 ∧ b1 = 80 ∧ b2 = 49) := by
  rw [ByteArray.toList_eq]
  constructor
  · intro h
    simp only [strOfNums, List.map_cons, List.map_nil, List.cons.injEq, and_true] at h
    obtain ⟨a, b, c⟩ := h
    have t : ∀ (x : Int) (y : Nat), 0 ≤ x ∧ x ≤ 255 → y ≤ 255 → UInt8.ofNat x.toNat = UInt8.ofNat y → x = y := by
      intro x y hx hy e
      have := congrArg UInt8.toNat e
      simp only [UInt8.toNat_ofNat'] at this
      omega
    exact ⟨t b0 84 h0 (by omega) a, t b1 80 h1 (by omega) b, t b2 49 h2 (by omega) c⟩
  · rintro ⟨rfl, rfl, rfl⟩
    rfl
/-- What any bytes are: a policy, or none. -/
def cntA (L : List Int) : Nat := (B L 4).toNat
def cntB (L : List Int) : Nat := (B L (5 + 10 * cntA L)).toNat
def isP (L : List Int) : Prop := L.length = 6 + 10 * cntA L + 3 * cntB L ∧ (B L 0 = 84 ∧ B L 1 = 80 ∧ B L 2 = 49) ∧ B L 3 ≤ 1 ∧ goodB (srcs L (cntA L)) (snks L (6 + 10 * cntA L) (cntB L)) = true
instance (L : List Int) : Decidable (isP L) := by unfold isP; infer_instance
def getP (L : List Int) : Bool × List S35 × List S37 × Int := if isP L then (B L 3 == 1, srcs L (cntA L), snks L (6 + 10 * cntA L) (cntB L), 0) else (false, [], [], 3)
def GetPost (W : World) (L : List Int) (e : Ending) (w' : World) : Prop :=
  ∃ v1 v2, e = .returned (.tuple #[.agg #[.bool (getP L).1, v1, v2], .int .i64 (getP L).2.2.2]) ∧ Kd.R k35 35 w' W.heap.size (fun _ => True) v1 (getP L).2.1 ∧ Kd.R k37 37 w' W.heap.size (fun _ => True) v2 (getP L).2.2.1 ∧ Below W.heap.size W w'
theorem fin_bad {W w : World} {gr gp gs : Nat} {L : List Int} {k : Nat} {ptr : Bool} {v1 v2 : Value} {xs : List S35} {ys : List S37} {t : Nat} {sc : Array Value}
    (S : St W w gr gp gs W.heap.size L k ptr v1 v2 xs ys t sc) (h : ¬ isP L) (tm : Array Value) (h2 : tm.getD 2 undef = .pointer (some ⟨W.heap.size, 0, none⟩)) (h3 : tm.getD 3 undef = .int .i64 3) :
    bodyPost Try.prog Try.f10 (GetPost W L) Exit.ret ⟨tm, []⟩ (((w.setCell ⟨W.heap.size, 0, none⟩ (.bool false)).setCell ⟨W.heap.size, 1, none⟩ (.slice none 0 0)).setCell ⟨W.heap.size, 2, none⟩ (.slice none 0 0)) := by
  have hw := blk_set (blk_set (blk_set S.h2 0 (.bool false)) 1 (.slice none 0 0)) 2 (.slice none 0 0)
  refine bodyPost_ret (results_ct (P := Try.prog) (ty := 26) (p := 2) (u := 3) rfl tm _ W.heap.size 26 #[.bool false, .slice none 0 0, .slice none 0 0] (0, 0) _ h2 (by simpa using hw) Try.underlying26 rfl (by kernel_rfl)) rfl ?_
  rw [h3]
  have e : getP L = (false, [], [], 3) := by rw [getP, if_neg h]
  refine ⟨.slice none 0 0, .slice none 0 0, by rw [e], by rw [e]; exact Kd.R_nil _ _ _ _ _, by rw [e]; exact Kd.R_nil _ _ _ _ _, ?_⟩
  exact ((S.hB.setCell (Nat.le_refl _) _).setCell (Nat.le_refl _) _).setCell (Nat.le_refl _) _

set_option maxHeartbeats 4000000 in
set_option maxRecDepth 100000 in
theorem get_run (W : World) (L : List Int) (A : Option Addr) (c : Nat) (hl : Bytes L) (hr : Kd.C (Kd.int .u8) W A L.length L) (hc : L.length ≤ c) (b0 b1 b2 b3 : Int) (n m : Nat) (hb0 : Aside0 (B L 0 = b0)) (hb1 : Aside0 (B L 1 = b1)) (hb2 : Aside0 (B L 2 = b2)) (hb3 : Aside0 (B L 3 = b3)) (hn : Aside0 (B L 4 = (n : Int))) (hm : Aside0 (B L (5 + 10 * n) = (m : Int))) (hn255 : n ≤ 255) (hm255 : m ≤ 255) :
    Calls Try.prog 10 #[.slice A L.length c] W (GetPost W L) := by
  have HR := Aside0.mk (Kd.reads_of_C (d := (0 : Int)) hr)
  have HC := Aside0.mk hc
  have HL := Aside0.mk hl
  clear hr hc hl
  go_enter Try.func10, Try.ntmps10
  go_wp2_with fail
  have i0 : IsR W ((W.alloc (Obj.cells #[Value.bool false, Value.slice none 0 0, Value.slice none 0 0] 26)).alloc (Obj.cells #[Value.slice A L.length c, Value.bool false] 60)) (W.heap.size + 1) (L.drop 0) (decide (L.length < 0)) :=
    ⟨A, c, by have := blk_new (W.alloc (Obj.cells #[Value.bool false, Value.slice none 0 0, Value.slice none 0 0] 26)) (Obj.cells #[Value.slice A L.length c, Value.bool false] 60); simpa using this, by omega, HR.out, HC.out⟩
  have B0 : Below W.heap.size W ((W.alloc (Obj.cells #[Value.bool false, Value.slice none 0 0, Value.slice none 0 0] 26)).alloc (Obj.cells #[Value.slice A L.length c, Value.bool false] 60)) := below_alloc (below_alloc (Below.refl _ _) _) _
  have g0 : ((W.alloc (Obj.cells #[Value.bool false, Value.slice none 0 0, Value.slice none 0 0] 26)).alloc (Obj.cells #[Value.slice A L.length c, Value.bool false] 60)).heap[W.heap.size]? = some (.cells #[Value.bool false, Value.slice none 0 0, Value.slice none 0 0] 26 (0, 0)) := blk_alloc (blk_new W _) _
  have I1 := Aside0.mk i0; have BB1 := Aside0.mk B0; have G1 := Aside0.mk g0
  clear i0 B0 g0
  go_wp2_with fail
  refine (readOne (W.heap.size + 1) L 0 b0 hb0.out W _ I1.out BB1.out).mono ?_
  rintro e w1 ⟨rfl, -, i1, B1, k1⟩
  have g1 := k1.blk G1.out (by omega) (by simp)
  clear I1 BB1 G1 k1
  have I1 := Aside0.mk i1; have BB1 := Aside0.mk B1; have G1 := Aside0.mk g1
  clear i1 B1 g1
  go_wp2_with fail
  refine (readOne (W.heap.size + 1) L 1 b1 hb1.out W _ I1.out BB1.out).mono ?_
  rintro e w2 ⟨rfl, -, i1, B1, k1⟩
  have g1 := k1.blk G1.out (by omega) (by simp)
  clear I1 BB1 G1 k1
  have I1 := Aside0.mk i1; have BB1 := Aside0.mk B1; have G1 := Aside0.mk g1
  clear i1 B1 g1
  go_wp2_with fail
  refine (readOne (W.heap.size + 1) L 2 b2 hb2.out W _ I1.out BB1.out).mono ?_
  rintro e w3 ⟨rfl, -, i1, B1, k1⟩
  have g1 := k1.blk G1.out (by omega) (by simp)
  clear I1 BB1 G1 k1
  have I1 := Aside0.mk i1; have BB1 := Aside0.mk B1; have G1 := Aside0.mk g1
  clear i1 B1 g1
  have hcv : Sem.run Try.prog (convert 30 9 (Value.slice (some { block := w3.heap.size, off := 0 }) 3 3)) (w3.alloc (Obj.cells #[Value.int IntKind.u8 b0, Value.int IntKind.u8 b1, Value.int IntKind.u8 b2] 5)) = .ok (.string (strOfNums [b0, b1, b2])) (w3.alloc (Obj.cells #[Value.int IntKind.u8 b0, Value.int IntKind.u8 b1, Value.int IntKind.u8 b2] 5)) :=
    own_string Try.underlying30 Try.underlying5 Try.underlying9 (own_lit w3 w3.heap.size 5 .u8 [b0, b1, b2] (Nat.le_refl _) (by simp))
  obtain ⟨hd, hhd⟩ : ∃ hd : ByteArray, hd = strOfNums [b0, b1, b2] := ⟨_, rfl⟩
  rw [← hhd] at hcv
  have HHD := Aside0.mk hhd
  clear hhd
  go_wp2_with fail
  clear hcv
  have hb4 := below_alloc (Below.refl w3.heap.size w3) (Obj.cells #[Value.int IntKind.u8 b0, Value.int IntKind.u8 b1, Value.int IntKind.u8 b2] 5)
  have i4 := I1.out.below hb4
  have G4 := Aside0.mk (blk_below G1.out hb4)
  have D4 := Aside0.mk (blk_new w3 (Obj.cells #[Value.int IntKind.u8 b0, Value.int IntKind.u8 b1, Value.int IntKind.u8 b2] 5))
  have hsz : Aside0 (W.heap.size + 1 < w3.heap.size) := ⟨by obtain ⟨A, c, h1, _⟩ := I1.out; exact blk_lt h1⟩
  refine (readOne (W.heap.size + 1) L 3 b3 hb3.out W _ i4 (below_step BB1.out hb4)).mono ?_
  rintro e w4 ⟨rfl, -, i1, B1, k1⟩
  have g1 := k1.blk G4.out (by omega) (by simp)
  have d1 := k1.blk D4.out (by have := hsz.out; omega) (by simp)
  clear I1 BB1 G1 k1 i4 hb4 G4 D4
  go_wp2_with fail
  have S0 : Aside0 (St W (w4.alloc (Obj.cells #[Value.bool (b3 == 1), Value.slice none 0 0, Value.slice none 0 0] 26)) (W.heap.size + 1) w4.heap.size w3.heap.size W.heap.size L 4 (b3 == 1) (.slice none 0 0) (.slice none 0 0) [] [] 5 #[Value.int IntKind.u8 b0, Value.int IntKind.u8 b1, Value.int IntKind.u8 b2]) := by
    have hx := below_alloc (Below.refl w4.heap.size w4) (Obj.cells #[Value.bool (b3 == 1), Value.slice none 0 0, Value.slice none 0 0] 26)
    have h3 := hsz.out
    have h4 := blk_lt d1
    exact ⟨⟨i1.below hx, blk_new _ _, blk_below d1 hx, blk_below g1 hx, Kd.R_nil _ _ _ _ _, Kd.R_nil _ _ _ _ _, below_step B1 hx, by omega, by omega⟩⟩
  clear i1 B1 g1 d1
  refine (readOne (W.heap.size + 1) L 4 n hn.out W _ S0.out.hI S0.out.hB).mono ?_
  rintro e w5 ⟨rfl, ha⟩
  have S1 := Aside0.mk (S0.out.call ha)
  clear S0 ha
  generalize W.heap.size + 1 = gr at *
  generalize w4.heap.size = gp at *
  have S1 : Aside0 (∃ gs t sc v1, St W w5 gr gp gs W.heap.size L (5 + 10 * 0) (b3 == 1) v1 (.slice none 0 0) (srcs L 0) [] t sc) := ⟨⟨_, _, _, _, S1.out⟩⟩
  go_wp2
  go_loopw [28] (fun i wr => ∃ k : Nat, k ≤ n ∧ i = .int .u8 k ∧ Aside0 (∃ gs t sc v1, St W wr gr gp gs W.heap.size L (5 + 10 * k) (b3 == 1) v1 (.slice none 0 0) (srcs L k) [] t sc)) (fun i _ => n - (intOf i).toNat)
  case atStart => exact ⟨0, by omega, rfl, S1⟩
  case round =>
    obtain ⟨k, hk, rfl, hS⟩ := hrel
    by_cases hlt : k < n
    · obtain ⟨gs, t, sc, v1, hS⟩ := hS.out
      have S1 := Aside0.mk hS
      clear hS
      obtain ⟨x0, hx0⟩ : ∃ b, Aside0 (B L (5 + 10 * k) = b) := ⟨_, ⟨rfl⟩⟩
      obtain ⟨x1, hx1⟩ : ∃ b, Aside0 (le 4 (L.drop (5 + 10 * k + 1)) = b) := ⟨_, ⟨rfl⟩⟩
      obtain ⟨x2, hx2⟩ : ∃ b, Aside0 (le 4 (L.drop (5 + 10 * k + 1 + 4)) = b) := ⟨_, ⟨rfl⟩⟩
      obtain ⟨x3, hx3⟩ : ∃ b, Aside0 (B L (5 + 10 * k + 1 + 4 + 4) = b) := ⟨_, ⟨rfl⟩⟩
      obtain ⟨q0, q1⟩ : 0 ≤ x0 ∧ x0 ≤ 255 := by rw [← hx0.out]; exact (HL.out.drop _).head
      go_wp2_with fail
      refine (readOne gr L _ x0 hx0.out W _ S1.out.hI S1.out.hB).mono ?_
      rintro e w6 ⟨rfl, ha⟩
      have S2 := Aside0.mk (S1.out.call ha)
      clear S1 ha
      go_wp2_with fail
      have S3 := Aside0.mk (S2.out.new_s 35 #[.int .i64 x0, .int .u32 0, .int .u32 0, .int .u8 0])
      clear S2
      refine (readFour gr L _ x1 hx1.out HL.out W _ S3.out.hI S3.out.hB).mono ?_
      rintro e w7 ⟨rfl, ha⟩
      have S4 := Aside0.mk (S3.out.call ha)
      clear S3 ha
      generalize w6.heap.size = gs1 at *
      have c1 : w7.cell? ⟨gs1, 1, none⟩ = some (.int .u32 0) := (blk_cell S4.out.hs 1).trans rfl
      have f1 := blk_frozen S4.out.hs 1
      go_wp2_with fail
      have S5 : Aside0 (St W (w7.setCell ⟨gs1, 1, none⟩ (.int .u32 x1)) gr gp gs1 W.heap.size L (5 + 10 * k + 1 + 4) (b3 == 1) v1 (.slice none 0 0) (srcs L k) [] 35 #[.int .i64 x0, .int .u32 x1, .int .u32 0, .int .u8 0]) := ⟨by simpa using S4.out.set_s 1 (.int .u32 x1)⟩
      clear S4 c1 f1
      refine (readFour gr L _ x2 hx2.out HL.out W _ S5.out.hI S5.out.hB).mono ?_
      rintro e w8 ⟨rfl, ha⟩
      have S6 := Aside0.mk (S5.out.call ha)
      clear S5 ha
      have c1 : w8.cell? ⟨gs1, 2, none⟩ = some (.int .u32 0) := (blk_cell S6.out.hs 2).trans rfl
      have f1 := blk_frozen S6.out.hs 2
      go_wp2_with fail
      have S7 : Aside0 (St W (w8.setCell ⟨gs1, 2, none⟩ (.int .u32 x2)) gr gp gs1 W.heap.size L (5 + 10 * k + 1 + 4 + 4) (b3 == 1) v1 (.slice none 0 0) (srcs L k) [] 35 #[.int .i64 x0, .int .u32 x1, .int .u32 x2, .int .u8 0]) := ⟨by simpa using S6.out.set_s 2 (.int .u32 x2)⟩
      clear S6 c1 f1
      refine (readOne gr L _ x3 hx3.out W _ S7.out.hI S7.out.hB).mono ?_
      rintro e w9 ⟨rfl, ha⟩
      have S8 := Aside0.mk (S7.out.call ha)
      clear S7 ha
      have c1 : w9.cell? ⟨gs1, 3, none⟩ = some (.int .u8 0) := (blk_cell S8.out.hs 3).trans rfl
      have f1 := blk_frozen S8.out.hs 3
      go_upto_region 11 with (fail)
      have S9 : Aside0 (St W (w9.setCell ⟨gs1, 3, none⟩ (.int .u8 x3)) gr gp gs1 W.heap.size L (5 + 10 * k + 1 + 4 + 4 + 1) (b3 == 1) v1 (.slice none 0 0) (srcs L k) [] 35 #[.int .i64 x0, .int .u32 x1, .int .u32 x2, .int .u8 x3]) := ⟨by simpa using S8.out.set_s 3 (.int .u8 x3)⟩
      clear S8 c1 f1
      generalize w9.setCell ⟨gs1, 3, none⟩ (.int .u8 x3) = w10 at *
      have d0 : w10.cell? ⟨gs1, 0, none⟩ = some (.int .i64 x0) := (blk_cell S9.out.hs 0).trans rfl
      have d1 : w10.cell? ⟨gs1, 1, none⟩ = some (.int .u32 x1) := (blk_cell S9.out.hs 1).trans rfl
      have d2 : w10.cell? ⟨gs1, 2, none⟩ = some (.int .u32 x2) := (blk_cell S9.out.hs 2).trans rfl
      have d3 : w10.cell? ⟨gs1, 3, none⟩ = some (.int .u8 x3) := (blk_cell S9.out.hs 3).trans rfl
      have c1 : w10.cell? ⟨gp, 1, none⟩ = some v1 := (blk_cell S9.out.hp 1).trans rfl
      have hlen : Aside0 (((srcs L k).length + 1) * 24 ≤ 140737488355328) := ⟨by rw [srcs_length]; omega⟩
      have hsrc : Aside0 (k35.M w10 W.heap.size (fun _ => False) (srcAt L (5 + 10 * k)) [.int .i64 x0, .int .u32 x1, .int .u32 x2, .int .u8 x3]) := ⟨by
        have := k35_mkM w10 W.heap.size (fun _ => False) (srcAt L (5 + 10 * k))
        simp only [srcAt, hx0.out] at this
        rw [show 5 + 10 * k + 5 = 5 + 10 * k + 1 + 4 from by omega, show 5 + 10 * k + 9 = 5 + 10 * k + 1 + 4 + 4 from by omega, hx1.out, hx2.out, hx3.out] at this
        simpa only [srcAt, hx0.out, show 5 + 10 * k + 5 = 5 + 10 * k + 1 + 4 from by omega, show 5 + 10 * k + 9 = 5 + 10 * k + 1 + 4 + 4 from by omega, hx1.out, hx2.out, hx3.out] using this⟩
      have hu35 := Try.underlying35
      go_wp2_with (at_builtin; refine Kd.R_append (w0 := W) (W := w10) k35 W.heap.size rfl (.tmp 44) (.tmp 46) 23 35 (.agg #[(.int .i64 0), (.int .u32 0), (.int .u32 0), (.int .u8 0)]) 24 rfl Try.underlying23 info35 rfl (by decide) (by decide) v1 (srcs L k) (srcAt L (5 + 10 * k)) [.int .i64 x0, .int .u32 x1, .int .u32 x2, .int .u8 x3] (fun k => k ≠ gr ∧ k ≠ gp ∧ k ≠ gs1 ∧ k ≠ W.heap.size) (fun _ => False) rfl rfl hsrc.out (fun _ h => h.elim) S9.out.fresh S9.out.hr1 S9.out.hB S9.out.hB.size hlen.out ?_; intro v2 w11 ho hb hg hat; obtain ⟨A2, c2, hv2⟩ := Kd.R_slice ho; subst hv2; have S10 := Aside0.mk (S9.out.app1 (by rw [← srcs_succ] at ho; exact ho) hb hg); have e1 : w11.cell? ⟨gp, 1, none⟩ = some v1 := (blk_cell (blk_grown S9.out.hp hg (S9.out.row1 gp (by omega))) 1).trans rfl; have e2 := blk_frozen (blk_grown S9.out.hp hg (S9.out.row1 gp (by omega))) 1; clear ho hb hg hat c1 d0 d1 d2 d3 hlen hsrc S9)
      go_roundw
      case rel => exact ⟨k + 1, by omega, rfl, ⟨_, _, _, _, by have := S10.out; rw [show 5 + 10 * k + 1 + 4 + 4 + 1 = 5 + 10 * (k + 1) from by omega] at this; rw [show (srcs L k).length + 1 = (srcs L (k + 1)).length from by rw [srcs_length, srcs_length]]; exact this⟩⟩
      case measure => simp [intOf]; omega
    · obtain rfl : n = k := by omega
      obtain ⟨gs, t, sc, v1, hS⟩ := hS.out
      have S1 := Aside0.mk hS
      clear hS
      go_wp2_with fail
      refine (readOne gr L _ m hm.out W _ S1.out.hI S1.out.hB).mono ?_
      rintro e x5 ⟨rfl, ha⟩
      have S2 := Aside0.mk (S1.out.call ha)
      clear S1 ha
      have hS : Aside0 (∃ gs t sc v2, St W x5 gr gp gs W.heap.size L (6 + 10 * n + 3 * 0) (b3 == 1) v1 v2 (srcs L n) (snks L (6 + 10 * n) 0) t sc) := ⟨⟨_, _, _, _, by have := S2.out; rw [show 5 + 10 * n + 1 = 6 + 10 * n + 3 * 0 from by omega] at this; exact this⟩⟩
      clear S2
      go_wp2
      go_loopw [52] (fun i wr => ∃ j : Nat, j ≤ m ∧ i = .int .u8 j ∧ Aside0 (∃ gs t sc v2, St W wr gr gp gs W.heap.size L (6 + 10 * n + 3 * j) (b3 == 1) v1 v2 (srcs L n) (snks L (6 + 10 * n) j) t sc)) (fun i _ => m - (intOf i).toNat)
      case atStart => exact ⟨0, by omega, rfl, hS⟩
      case round =>
        obtain ⟨j, hj, rfl, hS⟩ := hrel
        by_cases hlt : j < m
        · obtain ⟨gs, t, sc, v2, hS⟩ := hS.out
          have S1 := Aside0.mk hS
          clear hS
          obtain ⟨y0, hy0⟩ : ∃ b, Aside0 (B L (6 + 10 * n + 3 * j) = b) := ⟨_, ⟨rfl⟩⟩
          obtain ⟨y1, hy1⟩ : ∃ b, Aside0 (B L (6 + 10 * n + 3 * j + 1) = b) := ⟨_, ⟨rfl⟩⟩
          obtain ⟨y2, hy2⟩ : ∃ b, Aside0 (B L (6 + 10 * n + 3 * j + 1 + 1) = b) := ⟨_, ⟨rfl⟩⟩
          obtain ⟨q0, q1⟩ : 0 ≤ y0 ∧ y0 ≤ 255 := by rw [← hy0.out]; exact (HL.out.drop _).head
          obtain ⟨q2, q3⟩ : 0 ≤ y1 ∧ y1 ≤ 255 := by rw [← hy1.out]; exact (HL.out.drop _).head
          go_wp2_with fail
          refine (readOne gr L _ y0 hy0.out W _ S1.out.hI S1.out.hB).mono ?_
          rintro e x6 ⟨rfl, ha⟩
          have S2 := Aside0.mk (S1.out.call ha)
          clear S1 ha
          go_wp2_with fail
          have S3 := Aside0.mk (S2.out.new_s 37 #[.int .i64 y0, .int .i64 0, .int .u8 0])
          clear S2
          refine (readOne gr L _ y1 hy1.out W _ S3.out.hI S3.out.hB).mono ?_
          rintro e x7 ⟨rfl, ha⟩
          have S4 := Aside0.mk (S3.out.call ha)
          clear S3 ha
          generalize x6.heap.size = gs1 at *
          have c1 : x7.cell? ⟨gs1, 1, none⟩ = some (.int .i64 0) := (blk_cell S4.out.hs 1).trans rfl
          have f1 := blk_frozen S4.out.hs 1
          go_wp2_with fail
          have S5 : Aside0 (St W (x7.setCell ⟨gs1, 1, none⟩ (.int .i64 y1)) gr gp gs1 W.heap.size L (6 + 10 * n + 3 * j + 1 + 1) (b3 == 1) v1 v2 (srcs L n) (snks L (6 + 10 * n) j) 37 #[.int .i64 y0, .int .i64 y1, .int .u8 0]) := ⟨by simpa using S4.out.set_s 1 (.int .i64 y1)⟩
          clear S4 c1 f1
          refine (readOne gr L _ y2 hy2.out W _ S5.out.hI S5.out.hB).mono ?_
          rintro e x9 ⟨rfl, ha⟩
          have S8 := Aside0.mk (S5.out.call ha)
          clear S5 ha
          have c1 : x9.cell? ⟨gs1, 2, none⟩ = some (.int .u8 0) := (blk_cell S8.out.hs 2).trans rfl
          have f1 := blk_frozen S8.out.hs 2
          go_upto_region 18 with (fail)
          have S9 : Aside0 (St W (x9.setCell ⟨gs1, 2, none⟩ (.int .u8 y2)) gr gp gs1 W.heap.size L (6 + 10 * n + 3 * j + 1 + 1 + 1) (b3 == 1) v1 v2 (srcs L n) (snks L (6 + 10 * n) j) 37 #[.int .i64 y0, .int .i64 y1, .int .u8 y2]) := ⟨by simpa using S8.out.set_s 2 (.int .u8 y2)⟩
          clear S8 c1 f1
          generalize x9.setCell ⟨gs1, 2, none⟩ (.int .u8 y2) = x10 at *
          have d0 : x10.cell? ⟨gs1, 0, none⟩ = some (.int .i64 y0) := (blk_cell S9.out.hs 0).trans rfl
          have d1 : x10.cell? ⟨gs1, 1, none⟩ = some (.int .i64 y1) := (blk_cell S9.out.hs 1).trans rfl
          have d2 : x10.cell? ⟨gs1, 2, none⟩ = some (.int .u8 y2) := (blk_cell S9.out.hs 2).trans rfl
          have c1 : x10.cell? ⟨gp, 2, none⟩ = some v2 := (blk_cell S9.out.hp 2).trans rfl
          have hlen : Aside0 (((snks L (6 + 10 * n) j).length + 1) * 24 ≤ 140737488355328) := ⟨by rw [snks_length]; omega⟩
          have hsnk : Aside0 (k37.M x10 W.heap.size (fun _ => False) (snkAt L (6 + 10 * n + 3 * j)) [.int .i64 y0, .int .i64 y1, .int .u8 y2]) := ⟨by
            have := k37_mkM x10 W.heap.size (fun _ => False) (snkAt L (6 + 10 * n + 3 * j))
            simpa only [snkAt, hy0.out, hy1.out, show 6 + 10 * n + 3 * j + 2 = 6 + 10 * n + 3 * j + 1 + 1 from by omega, hy2.out] using this⟩
          have hu37 := Try.underlying37
          go_wp2_with (at_builtin; refine Kd.R_append (w0 := W) (W := x10) k37 W.heap.size rfl (.tmp 66) (.tmp 68) 24 37 (.agg #[(.int .i64 0), (.int .i64 0), (.int .u8 0)]) 24 rfl Try.underlying24 info37 rfl (by decide) (by decide) v2 (snks L (6 + 10 * n) j) (snkAt L (6 + 10 * n + 3 * j)) [.int .i64 y0, .int .i64 y1, .int .u8 y2] (fun k => k ≠ gr ∧ k ≠ gp ∧ k ≠ gs1 ∧ k ≠ W.heap.size) (fun _ => False) rfl rfl hsnk.out (fun _ h => h.elim) S9.out.fresh S9.out.hr2 S9.out.hB S9.out.hB.size hlen.out ?_; intro v3 x11 ho hb hg hat; obtain ⟨A2, c2, hv3⟩ := Kd.R_slice ho; subst hv3; have S10 := Aside0.mk (S9.out.app2 (by rw [← snks_succ] at ho; exact ho) hb hg); have e1 : x11.cell? ⟨gp, 2, none⟩ = some v2 := (blk_cell (blk_grown S9.out.hp hg (S9.out.row2 gp (by omega))) 2).trans rfl; have e2 := blk_frozen (blk_grown S9.out.hp hg (S9.out.row2 gp (by omega))) 2; clear ho hb hg hat c1 d0 d1 d2 hlen hsnk S9)
          go_roundw
          case rel => exact ⟨j + 1, by omega, rfl, ⟨_, _, _, _, by have := S10.out; rw [show 6 + 10 * n + 3 * j + 1 + 1 + 1 = 6 + 10 * n + 3 * (j + 1) from by omega] at this; rw [show (snks L (6 + 10 * n) j).length + 1 = (snks L (6 + 10 * n) (j + 1)).length from by rw [snks_length, snks_length]]; exact this⟩⟩
          case measure => simp [intOf]; omega
        · obtain rfl : m = j := by omega
          obtain ⟨gs, t, sc, v2, hS⟩ := hS.out
          have S1 := Aside0.mk hS
          clear hS
          obtain ⟨A1, c1, hv1, le1, C1⟩ := Kd.R_reads S1.out.hr1
          obtain ⟨A2, c2, hv2, le2, C2⟩ := Kd.R_reads S1.out.hr2
          subst hv1; subst hv2
          have LE1 := Aside0.mk le1; have LE2 := Aside0.mk le2; have CC1 := Aside0.mk C1; have CC2 := Aside0.mk C2
          clear le1 le2 C1 C2
          obtain ⟨A', c', r1, r2, r3, r4⟩ := S1.out.hI
          have p0 := (blk_cell S1.out.hp 0).trans rfl
          have p1 := (blk_cell S1.out.hp 1).trans rfl
          have p2 := (blk_cell S1.out.hp 2).trans rfl
          have t0 := (blk_cell S1.out.h2 0).trans rfl
          have t1 := (blk_cell S1.out.h2 1).trans rfl
          have t2 := (blk_cell S1.out.h2 2).trans rfl
          have s0 := blk_frozen S1.out.h2 0
          have s1 := blk_frozen S1.out.h2 1
          have s2 := blk_frozen S1.out.h2 2
          have hu26 := Try.underlying26
          have q0 := (blk_cell r1 0).trans rfl
          have q1 := (blk_cell r1 1).trans rfl
          generalize hq : (L.drop (6 + 10 * n + 3 * m)).length = q at *
          have HQ := Aside0.mk hq
          clear hq
          clear r1 r2 r3 r4
          have hcA : Aside0 (cntA L = n) := ⟨by unfold cntA; rw [hn.out]; omega⟩
          have hcB : Aside0 (cntB L = m) := ⟨by unfold cntB; rw [hcA.out, hm.out]; omega⟩
          by_cases h1 : L.length < 6 + 10 * n + 3 * m
          · rw [decide_eq_true h1] at q1
            have H1 : Aside0 (¬ isP L) := ⟨fun h => by have := h.1; rw [hcA.out, hcB.out] at this; omega⟩
            clear h1
            go_wp2
            exact fin_bad S1.out H1.out _ rfl rfl
          · rw [decide_eq_false h1] at q1
            by_cases h2 : 0 < q
            · have H1 : Aside0 (¬ isP L) := ⟨fun h => by have := h.1; rw [hcA.out, hcB.out] at this; have h3 := HQ.out; rw [List.length_drop] at h3; omega⟩
              clear h1
              go_wp2
              exact fin_bad S1.out H1.out _ rfl rfl
            · obtain rfl : q = 0 := by omega
              have HT : Aside0 (L.length = 6 + 10 * n + 3 * m) := ⟨by have h3 := HQ.out; rw [List.length_drop] at h3; omega⟩
              clear h1 h2 HQ
              by_cases h3 : hd.toList = [84, 80, 49]
              · have H3 : Aside0 (b0 = 84 ∧ b1 = 80 ∧ b2 = 49) := ⟨(head_iff (by rw [← hb0.out]; exact (HL.out.drop _).head) (by rw [← hb1.out]; exact (HL.out.drop _).head) (by rw [← hb2.out]; exact (HL.out.drop _).head)).1 (by rw [← HHD.out]; exact h3)⟩
                by_cases h4 : 1 < b3
                · have H1 : Aside0 (¬ isP L) := ⟨fun h => by have := h.2.2.1; rw [hb3.out] at this; omega⟩
                  go_wp2
                  exact fin_bad S1.out H1.out _ rfl rfl
                · have hg := good_at (b3 == 1) (srcs L n) (snks L (6 + 10 * n) m) (by rw [srcs_length]; omega) (by rw [snks_length]; omega)
                  have HG := Aside0.mk hg
                  clear hg
                  go_wp2_with fail
                  cases hgb : goodB (srcs L n) (snks L (6 + 10 * n) m) with
                  | true =>
                    refine (policy_Good.calls _ (b3 == 1) A1 c1 (srcs L n) A2 c2 (snks L (6 + 10 * n) m) true _ CC1.out LE1.out CC2.out LE2.out (by rw [HG.out, hgb])).mono ?_
                    rintro e w' ⟨rfl, hb⟩
                    have S2 := Aside0.mk (S1.out.below hb)
                    have H1 : Aside0 (isP L) := ⟨by
                      unfold isP
                      rw [hcA.out, hcB.out, hb0.out, hb1.out, hb2.out, hb3.out]
                      exact ⟨HT.out, H3.out, by omega, hgb⟩⟩
                    clear p0 p1 p2 q0 q1 t0 t1 t2 s0 s1 s2 S1 hgb
                    have t0 := (blk_cell S2.out.h2 0).trans rfl
                    have t1 := (blk_cell S2.out.h2 1).trans rfl
                    have t2 := (blk_cell S2.out.h2 2).trans rfl
                    have s0 := blk_frozen S2.out.h2 0
                    have s1 := blk_frozen S2.out.h2 1
                    have s2 := blk_frozen S2.out.h2 2
                    have p0 := (blk_cell S2.out.hp 0).trans rfl
                    have p1 := (blk_cell S2.out.hp 1).trans rfl
                    have p2 := (blk_cell S2.out.hp 2).trans rfl
                    go_wp2
                    have hw := blk_set (blk_set (blk_set S2.out.h2 0 (.bool (b3 == 1))) 1 (.slice A1 (srcs L n).length c1)) 2 (.slice A2 (snks L (6 + 10 * n) m).length c2)
                    refine bodyPost_ret (results_ct (P := Try.prog) (ty := 26) (p := 2) (u := 3) rfl _ _ W.heap.size 26 #[.bool (b3 == 1), .slice A1 (srcs L n).length c1, .slice A2 (snks L (6 + 10 * n) m).length c2] (0, 0) _ rfl (by simpa using hw) Try.underlying26 rfl (by kernel_rfl)) rfl ?_
                    have e : getP L = (b3 == 1, srcs L n, snks L (6 + 10 * n) m, 0) := by rw [getP, if_pos H1.out, hcA.out, hcB.out, hb3.out]
                    refine ⟨.slice A1 (srcs L n).length c1, .slice A2 (snks L (6 + 10 * n) m).length c2, by rw [e]; rfl, ?_, ?_, ?_⟩
                    · rw [e]; exact Kd.R_mono (Kd.R_far (Kd.R_far (Kd.R_far S2.out.hr1 (fun _ hk => hk.2.2.2) _) (fun _ hk => hk.2.2.2) _) (fun _ hk => hk.2.2.2) _) (fun _ _ => trivial)
                    · rw [e]; exact Kd.R_mono (Kd.R_far (Kd.R_far (Kd.R_far S2.out.hr2 (fun _ hk => hk.2.2.2) _) (fun _ hk => hk.2.2.2) _) (fun _ hk => hk.2.2.2) _) (fun _ _ => trivial)
                    · exact ((S2.out.hB.setCell (Nat.le_refl _) _).setCell (Nat.le_refl _) _).setCell (Nat.le_refl _) _
                  | false =>
                    have H1 : Aside0 (¬ isP L) := ⟨fun h => by have := h.2.2.2; rw [hcA.out, hcB.out, hgb] at this; cases this⟩
                    refine (policy_Good.calls _ (b3 == 1) A1 c1 (srcs L n) A2 c2 (snks L (6 + 10 * n) m) false _ CC1.out LE1.out CC2.out LE2.out (by rw [HG.out, hgb])).mono ?_
                    rintro e w' ⟨rfl, hb⟩
                    have S2 := Aside0.mk (S1.out.below hb)
                    clear p0 p1 p2 q0 q1 t0 t1 t2 s0 s1 s2 S1
                    have t0 := (blk_cell S2.out.h2 0).trans rfl
                    have t1 := (blk_cell S2.out.h2 1).trans rfl
                    have t2 := (blk_cell S2.out.h2 2).trans rfl
                    have s0 := blk_frozen S2.out.h2 0
                    have s1 := blk_frozen S2.out.h2 1
                    have s2 := blk_frozen S2.out.h2 2
                    go_wp2
                    exact fin_bad S2.out H1.out _ rfl rfl
              · have H1 : Aside0 (¬ isP L) := ⟨fun h => by
                  apply h3
                  rw [HHD.out, ← hb0.out, ← hb1.out, ← hb2.out, h.2.1.1, h.2.1.2.1, h.2.1.2.2]; exact (head_iff (by omega) (by omega) (by omega)).2 ⟨rfl, rfl, rfl⟩⟩
                go_wp2
                exact fin_bad S1.out H1.out _ rfl rfl
theorem get (W : World) (L : List Int) (A : Option Addr) (c : Nat) (hl : Bytes L) (hr : Kd.C (Kd.int .u8) W A L.length L) (hc : L.length ≤ c) :
    Calls Try.prog 10 #[.slice A L.length c] W (GetPost W L) := by
  have r4 : 0 ≤ B L 4 ∧ B L 4 ≤ 255 := (hl.drop 4).head
  have rb : 0 ≤ B L (5 + 10 * (B L 4).toNat) ∧ B L (5 + 10 * (B L 4).toNat) ≤ 255 := (hl.drop (5 + 10 * (B L 4).toNat)).head
  exact get_run W L A c hl hr hc _ _ _ _ (B L 4).toNat (B L (5 + 10 * (B L 4).toNat)).toNat ⟨rfl⟩ ⟨rfl⟩ ⟨rfl⟩ ⟨rfl⟩ ⟨by rw [Int.toNat_of_nonneg r4.1]⟩ ⟨by rw [Int.toNat_of_nonneg rb.1]⟩ (by have : B L 4 ≤ 255 := r4.2; omega) (by have : B L (5 + 10 * (B L 4).toNat) ≤ 255 := rb.2; omega)
end Go.Proofs.Ytlhoaejkjhdlgaa.Get
