/- The walk of PolicyMore, and that its answer is true: one more source never labels less; a sink hits just if a label of its mask comes. -/
import Derived.Test.YtlhoaejkjhdlgaaAwake
import Derived.Test.YtlhoaejkjhdlgaaLits
import Derived.Test.YtlhoaejkjhdlgaaMorePure
import Derived.Test.YtlhoaejkjhdlgaaOpenTPolicyMore
import Derived.Test.YtlhoaejkjhdlgaaPlainPPolicyMore
import Derived.Deep.RegionHeld3
import Derived.Deep.QuietTactic
import Derived.BigQuiet
import Derived.IntWalk
import Derived.Deep.DrawnRows
import Derived.WalkKit
import Derived.Outline
namespace Go.Proofs.Ytlhoaejkjhdlgaa.PolicyMore
open Go.Proofs.Ytlhoaejkjhdlgaa.Lits
open Go Go.RowKit Go.Proofs.Ytlhoaejkjhdlgaa.Awake Go.Proofs.Ytlhoaejkjhdlgaa.OpenTPolicyMore Go.Proofs.Ytlhoaejkjhdlgaa.PPolicyMore Go.Proofs.YtlhoaejkjhdlgaaW.PrintWords Go.Proofs.YtlhoaejkjhdlgaaW.PrintLast Go.Proofs.YtlhoaejkjhdlgaaW.PrintMore Go.Proofs.Ytlhoaejkjhdlgaa.PlainPPolicyMore
set_option linter.unusedVariables false
set_option linter.unusedSimpArgs false
attribute [local go_sem ↓] Go.wp_at_zero Go.wp_at_succ
theorem info35 : (Try.prog.info? 35).map (fun i => (i.zero, i.size, i.bytes)) = some (some (.agg #[(.int .i64 0), (.int .u32 0), (.int .u32 0), (.int .u8 0)]), 4, 24) := by kernel_rfl
/-- What the law holds: the policy at g, the source at s, the second policy at q. -/
structure Held (W w' : World) (p : Bool) (A1 : Option Addr) (n1 c1 : Nat) (A2 : Option Addr) (n2 c2 : Nat) (x : S35) (xs : List S35) (ys : List S37) (q : Nat) : Prop where
  hg : w'.heap[W.heap.size]? = some (.cells #[.bool p, .slice A1 n1 c1, .slice A2 n2 c2] 26 (0, 0))
  hs : w'.heap[W.heap.size + 1]? = some (.cells #[.int .i64 x.f0, .int .u32 x.f1, .int .u32 x.f2, .int .u8 x.f3] 35 (0, 0))
  hq : q < w'.heap.size
  hB : Below W.heap.size W w'
  hne : W.heap.size + 1 < q
section
variable {W w w' : World} {p : Bool} {A1 : Option Addr} {n1 c1 : Nat} {A2 : Option Addr} {n2 c2 : Nat} {x : S35} {xs : List S35} {ys : List S37} {q : Nat}
theorem Held.below (h : Held W w p A1 n1 c1 A2 n2 c2 x xs ys q) (hb : Below w.heap.size w w') : Held W w' p A1 n1 c1 A2 n2 c2 x xs ys q :=
  ⟨blk_below h.hg hb, blk_below h.hs hb, Nat.lt_of_lt_of_le h.hq hb.size, below_step h.hB hb, h.hne⟩
theorem Held.drew (h : Held W w p A1 n1 c1 A2 n2 c2 x xs ys q) : Held W w.drew p A1 n1 c1 A2 n2 c2 x xs ys q := h.below (below_drew (Below.refl _ _))
theorem Held.alloc (h : Held W w p A1 n1 c1 A2 n2 c2 x xs ys q) (o : Obj) : Held W (w.alloc o) p A1 n1 c1 A2 n2 c2 x xs ys q := h.below (below_alloc (Below.refl _ _) o)
theorem Held.set (h : Held W w p A1 n1 c1 A2 n2 c2 x xs ys q) (v2 : Value) : Held W (w.setCell ⟨q, 1, none⟩ v2) p A1 n1 c1 A2 n2 c2 x xs ys q :=
  ⟨blk_far h.hg (by have := h.hne; show W.heap.size ≠ q; omega) v2, blk_far h.hs (by have := h.hne; show W.heap.size + 1 ≠ q; omega) v2, by have := h.hq; simpa [World.setCell] using this, below_set h.hB (by have := h.hne; omega), h.hne⟩
theorem Held.grown (h : Held W w p A1 n1 c1 A2 n2 c2 x xs ys q) {row : Option Nat} (hB : Below W.heap.size W w') (hg : w.grownBy w' row) (hr : ∀ k, row = some k → q < k) : Held W w' p A1 n1 c1 A2 n2 c2 x xs ys q :=
  ⟨blk_grown h.hg hg (fun e => by have := hr _ e.symm; have := h.hne; omega), blk_grown h.hs hg (fun e => by have := hr _ e.symm; have := h.hne; omega), Nat.lt_of_lt_of_le h.hq hg.size, hB, h.hne⟩
theorem Held.all (h : Held W w p A1 n1 c1 A2 n2 c2 x xs ys q) : Aside0 (Held W w p A1 n1 c1 A2 n2 c2 x xs ys q) ∧
      (w.cell? ⟨W.heap.size, 0, none⟩ = some (.bool p) ∧ w.cell? ⟨W.heap.size, 1, none⟩ = some (.slice A1 n1 c1) ∧ w.cell? ⟨W.heap.size, 2, none⟩ = some (.slice A2 n2 c2)) ∧
      (w.cell? ⟨W.heap.size + 1, 0, none⟩ = some (.int .i64 x.f0) ∧ w.cell? ⟨W.heap.size + 1, 1, none⟩ = some (.int .u32 x.f1) ∧ w.cell? ⟨W.heap.size + 1, 2, none⟩ = some (.int .u32 x.f2) ∧ w.cell? ⟨W.heap.size + 1, 3, none⟩ = some (.int .u8 x.f3)) :=
  ⟨⟨h⟩, ⟨(blk_cell h.hg 0).trans rfl, (blk_cell h.hg 1).trans rfl, (blk_cell h.hg 2).trans rfl⟩, ⟨(blk_cell h.hs 0).trans rfl, (blk_cell h.hs 1).trans rfl, (blk_cell h.hs 2).trans rfl, (blk_cell h.hs 3).trans rfl⟩⟩
end
theorem all2 {W w5 w : World} {p : Bool} {A1 : Option Addr} {n1 c1 : Nat} {A2 : Option Addr} {n2 c2 : Nat} {Ao : Option Addr} {no co : Nat} {x : S35} {xs : List S35} {ys : List S37} {q : Nat}
    (h : Held W w5 p A1 n1 c1 A2 n2 c2 x xs ys q) (hq : w5.heap[q]? = some (.cells #[.bool p, .slice Ao no co, .slice A2 n2 c2] 26 (0, 0))) (hb : Below w5.heap.size w5 w) :
    Aside0 (Below w5.heap.size w5 w) ∧
      (w.cell? ⟨W.heap.size, 0, none⟩ = some (.bool p) ∧ w.cell? ⟨W.heap.size, 1, none⟩ = some (.slice A1 n1 c1) ∧ w.cell? ⟨W.heap.size, 2, none⟩ = some (.slice A2 n2 c2)) ∧
      (w.cell? ⟨W.heap.size + 1, 0, none⟩ = some (.int .i64 x.f0) ∧ w.cell? ⟨W.heap.size + 1, 1, none⟩ = some (.int .u32 x.f1) ∧ w.cell? ⟨W.heap.size + 1, 2, none⟩ = some (.int .u32 x.f2) ∧ w.cell? ⟨W.heap.size + 1, 3, none⟩ = some (.int .u8 x.f3)) ∧
      (w.cell? ⟨q, 0, none⟩ = some (.bool p) ∧ w.cell? ⟨q, 1, none⟩ = some (.slice Ao no co) ∧ w.cell? ⟨q, 2, none⟩ = some (.slice A2 n2 c2)) := by
  obtain ⟨-, g1, g2⟩ := (h.below hb).all
  have hq2 := blk_below hq hb
  exact ⟨⟨hb⟩, g1, g2, (blk_cell hq2 0).trans rfl, (blk_cell hq2 1).trans rfl, (blk_cell hq2 2).trans rfl⟩
set_option maxHeartbeats 4000000 in
set_option maxRecDepth 100000 in
theorem run (W : World) (p : Bool) (xs : List S35) (ys : List S37) (x : S35) (A1 : Option Addr) (c1 : Nat) (A2 : Option Addr) (c2 : Nat) (l1 : xs.length ≤ c1) (r1 : Kd.C k35 W A1 xs.length xs) (l2 : ys.length ≤ c2) (r2 : Kd.C k37 W A2 ys.length ys)
    (kind arg a7 l : Int) (la lb : Int) (hs : List Int) (k : Nat) (hx40 : xs.length ≤ 40) (h70 : 0 ≤ a7) (h77 : a7 ≤ 7) (h7 : Go.bits .and .u32 arg 7 = a7)
    (hlen : Aside0 (hs.length ≤ 40))
    (hpure : Aside0 (∀ j : Int, 0 ≤ j → j < hs.length → 0 ≤ rd hs j ∧ rd hs j < (ys.length : Int) ∧ Go.bits .and .u8 (rd_T37 ys (rd hs j)).f2 l ≠ 0 ∧ (0 < j → rd hs (j - 1) < rd hs j)))
    (hl1 : (Go.bits .andNot .u8 la lb == 0) = true) (hl2 : (Go.bits .andNot .u8 lb (Go.bits .or .u8 la x.f3) == 0) = true)
    (hlong : Aside0 (tincturelaw7_long.f p xs ys = some false))
    (ha : Aside0 (policy_Policy_Label.f k p xs ys kind arg = some la)) (hb : Aside0 (policy_Policy_Label.f k p (xs ++ [x]) ys kind arg = some lb))
    (hc : Aside0 (policy_Policy_Hits.f k p xs ys kind a7 l = some hs)) (hd : Aside0 (policy_Policy_Hits.f k p xs ys kind a7 0 = some [])) :
    Calls Try.prog 7 #[.agg #[.bool p, .slice A1 xs.length c1, .slice A2 ys.length c2], .agg #[.int .i64 x.f0, .int .u32 x.f1, .int .u32 x.f2, .int .u8 x.f3], .int .i64 kind, .int .u32 arg, .int .u8 l] W fun e w' => e = .returned (.bool true) ∧ Below W.heap.size W w' := by
  have R1 := Aside0.mk r1; have R2 := Aside0.mk r2; have L1 := Aside0.mk l1; have L2 := Aside0.mk l2
  clear r1 r2 l1 l2
  have hu26 := Try.underlying26
  have hu35 := Try.underlying35
  go_enter Try.func7, Try.ntmps7
  go_wp2_with fail
  have hx := below_alloc (below_alloc (Below.refl W.heap.size W) (.cells #[.bool p, .slice A1 xs.length c1, .slice A2 ys.length c2] 26)) (.cells #[.int .i64 x.f0, .int .u32 x.f1, .int .u32 x.f2, .int .u8 x.f3] 35)
  have hg := blk_alloc (blk_new W (.cells #[.bool p, .slice A1 xs.length c1, .slice A2 ys.length c2] 26)) (.cells #[.int .i64 x.f0, .int .u32 x.f1, .int .u32 x.f2, .int .u8 x.f3] 35)
  have hs2 := blk_new (W.alloc (.cells #[.bool p, .slice A1 xs.length c1, .slice A2 ys.length c2] 26)) (.cells #[.int .i64 x.f0, .int .u32 x.f1, .int .u32 x.f2, .int .u8 x.f3] 35)
  rw [show (W.alloc (.cells #[.bool p, .slice A1 xs.length c1, .slice A2 ys.length c2] 26)).heap.size = W.heap.size + 1 by simp] at hs2
  refine (Awake.awake _).mono ?_
  rintro e w1 ⟨rfl, hb1⟩
  have HB := Aside0.mk (below_step hx hb1); have G := Aside0.mk (blk_below hg hb1); have S2 := Aside0.mk (blk_below hs2 hb1)
  clear hx hg hs2 hb1
  have q0 : w1.cell? ⟨W.heap.size, 0, none⟩ = some (.bool p) := (blk_cell G.out 0).trans rfl
  have q1 : w1.cell? ⟨W.heap.size, 1, none⟩ = some (.slice A1 xs.length c1) := (blk_cell G.out 1).trans rfl
  have q2 : w1.cell? ⟨W.heap.size, 2, none⟩ = some (.slice A2 ys.length c2) := (blk_cell G.out 2).trans rfl
  go_wp2_with fail
  refine (tincturelaw7_long.calls p A1 c1 xs A2 c2 ys false _ (Kd.C_below R1.out HB.out) L1.out (Kd.C_below R2.out HB.out) L2.out hlong.out).mono ?_
  rintro e w2 ⟨rfl, hb1⟩
  have n1 := Aside0.mk (below_step HB.out hb1); have n2 := Aside0.mk (blk_below G.out hb1); have n3 := Aside0.mk (blk_below S2.out hb1)
  clear HB G S2 hb1 q0 q1 q2
  have q0 : w2.cell? ⟨W.heap.size, 0, none⟩ = some (.bool p) := (blk_cell n2.out 0).trans rfl
  have q1 : w2.cell? ⟨W.heap.size, 1, none⟩ = some (.slice A1 xs.length c1) := (blk_cell n2.out 1).trans rfl
  have q2 : w2.cell? ⟨W.heap.size, 2, none⟩ = some (.slice A2 ys.length c2) := (blk_cell n2.out 2).trans rfl
  go_wp2
  have hal := below_alloc (Below.refl w2.heap.size w2) (.cells #[.bool p, .slice A1 xs.length c1, .slice A2 ys.length c2] 26)
  have H0 : Held W (w2.alloc (.cells #[.bool p, .slice A1 xs.length c1, .slice A2 ys.length c2] 26)) p A1 xs.length c1 A2 ys.length c2 x xs ys w2.heap.size :=
    ⟨blk_below n2.out hal, blk_below n3.out hal, blk_lt (blk_new _ _), below_step n1.out hal, by have := blk_lt n3.out; omega⟩
  have HH := Aside0.mk H0
  have HQ := Aside0.mk (blk_new w2 (.cells #[.bool p, .slice A1 xs.length c1, .slice A2 ys.length c2] 26))
  clear hal H0 n1 n2 n3 q0 q1 q2
  generalize w2.alloc (.cells #[.bool p, .slice A1 xs.length c1, .slice A2 ys.length c2] 26) = w4 at *
  generalize w2.heap.size = q at *
  have HN := Aside0.mk HH.out.drew
  have HQ2 := Aside0.mk (blk_drew HQ.out)
  clear HQ; have HQ := HQ2; clear HQ2
  go_region_held3 (fun w => Aside0 (Held W w p A1 xs.length c1 A2 ys.length c2 x xs ys q) ∧
      (w.cell? ⟨W.heap.size, 0, none⟩ = some (.bool p) ∧ w.cell? ⟨W.heap.size, 1, none⟩ = some (.slice A1 xs.length c1) ∧ w.cell? ⟨W.heap.size, 2, none⟩ = some (.slice A2 ys.length c2)) ∧
      (w.cell? ⟨W.heap.size + 1, 0, none⟩ = some (.int .i64 x.f0) ∧ w.cell? ⟨W.heap.size + 1, 1, none⟩ = some (.int .u32 x.f1) ∧ w.cell? ⟨W.heap.size + 1, 2, none⟩ = some (.int .u32 x.f2) ∧ w.cell? ⟨W.heap.size + 1, 3, none⟩ = some (.int .u8 x.f3)))
    (first | exact Held.all HN.out | exact Held.all (HN.out.alloc _) | exact Held.all ((HN.out.alloc _).alloc _) | exact Held.all (HN.out.set _))
    (first
      | (refine Kd.R_append_rows_step k35 (Rr := k35.K W) (w0 := W) W.heap.size (by rfl) (.tmp 21) (.tmp 23) 23 35 (.agg #[(.int .i64 0), (.int .u32 0), (.int .u32 0), (.int .u8 0)]) 24 rfl Try.underlying23 info35 rfl (by decide) (by omega) (.slice (some ⟨_, 0, none⟩) 0 0) [] xs A1 _ c1 (fun k => q < k) (fun _ => False) rfl rfl ?aO ?aR ?aK (fun _ h => h.elim) ?aF ?aB ?aS ?aL ?_
         case aO => have h5 := lit0_R k35 35 _ W.heap.size q (below_size HN.out.hB) HN.out.hq; exact h5
         case aR => exact Kd.C_below R1.out (below_alloc HN.out.hB _)
         case aK => intro y cs h; rw [k35_open h]; exact k35_mkM _ _ _ _
         case aF => intro k hk; have h1 := HN.out.hq; (try simp only [World.alloc, World.drew, Array.size_push] at hk); (try simp only [World.alloc, World.drew, Array.size_push] at h1); omega
         case aB => exact (below_alloc HN.out.hB _)
         case aS => exact below_size (below_alloc HN.out.hB _)
         case aL => simp; omega
         intro v1 w1 ho hb hg hat
         have HQ2 := Aside0.mk (blk_grown (blk_alloc HQ.out _) hg (own_ne (by have h1 := HN.out.hq; (try simp only [World.alloc, World.drew, Array.size_push] at h1); (try simp only [World.alloc, World.drew, Array.size_push]); omega)))
         clear HQ; have HQ := HQ2; clear HQ2
         have HN2 := Aside0.mk ((HN.out.alloc _).grown hb hg (fun k hk => own_lt hk (by have h1 := HN.out.hq; (try simp only [World.alloc, World.drew, Array.size_push] at h1); (try simp only [World.alloc, World.drew, Array.size_push]); omega)))
         clear HN; have HN := HN2; clear HN2
         have HA := Aside0.mk ho
         clear ho hb hg hat)
      | (refine Kd.R_append_rows_step k35 (Rr := k35.K W) (w0 := W) W.heap.size (by rfl) (.tmp 21) (.tmp 23) 23 35 (.agg #[(.int .i64 0), (.int .u32 0), (.int .u32 0), (.int .u8 0)]) 24 rfl Try.underlying23 info35 rfl (by decide) (by omega) (.slice (some ⟨_, 0, none⟩) 0 0) [] xs A1 _ c1 (fun k => q < k) (fun _ => False) rfl rfl ?aO ?aR ?aK (fun _ h => h.elim) ?aF ?aB ?aS ?aL ?_
         case aO => have h5 := Kd.R_alloc (lit0_R k35 35 _ W.heap.size q (below_size HN.out.hB) HN.out.hq) (.cells #[.int .i64 x.f0, .int .u32 x.f1, .int .u32 x.f2, .int .u8 x.f3] 35); exact h5
         case aR => exact Kd.C_below R1.out (below_alloc (below_alloc HN.out.hB _) _)
         case aK => intro y cs h; rw [k35_open h]; exact k35_mkM _ _ _ _
         case aF => intro k hk; have h1 := HN.out.hq; (try simp only [World.alloc, World.drew, Array.size_push] at hk); (try simp only [World.alloc, World.drew, Array.size_push] at h1); omega
         case aB => exact (below_alloc (below_alloc HN.out.hB _) _)
         case aS => exact below_size (below_alloc (below_alloc HN.out.hB _) _)
         case aL => simp; omega
         intro v1 w1 ho hb hg hat
         have HL := Aside0.mk (blk_grown (blk_drew (blk_new _ _)) hg (own_ne (by (try simp only [World.alloc, World.drew, Array.size_push]); omega)))
         have HQ2 := Aside0.mk (blk_grown (blk_alloc (blk_alloc HQ.out _) _) hg (own_ne (by have h1 := HN.out.hq; (try simp only [World.alloc, World.drew, Array.size_push] at h1); (try simp only [World.alloc, World.drew, Array.size_push]); omega)))
         clear HQ; have HQ := HQ2; clear HQ2
         have HN2 := Aside0.mk (((HN.out.alloc _).alloc _).grown hb hg (fun k hk => own_lt hk (by have h1 := HN.out.hq; (try simp only [World.alloc, World.drew, Array.size_push] at h1); (try simp only [World.alloc, World.drew, Array.size_push]); omega)))
         clear HN; have HN := HN2; clear HN2
         have HA := Aside0.mk ho
         clear ho hb hg hat)
      | (refine Kd.R_append_rows_step k35 (Rr := k35.K W) (w0 := W) W.heap.size (by rfl) (.tmp 21) (.tmp 23) 23 35 (.agg #[(.int .i64 0), (.int .u32 0), (.int .u32 0), (.int .u8 0)]) 24 rfl Try.underlying23 info35 rfl (by decide) (by omega) (.slice (some ⟨_, 0, none⟩) 0 0) [] xs A1 _ c1 (fun k => q < k) (fun _ => False) rfl rfl ?aO ?aR ?aK (fun _ h => h.elim) ?aF ?aB ?aS ?aL ?_
         case aO => have h5 := lit0_R k35 35 _ W.heap.size q (below_size (below_alloc HN.out.hB (.cells #[.int .i64 x.f0, .int .u32 x.f1, .int .u32 x.f2, .int .u8 x.f3] 35))) ((HN.out.alloc (.cells #[.int .i64 x.f0, .int .u32 x.f1, .int .u32 x.f2, .int .u8 x.f3] 35)).hq); first | exact h5 | (simp only [World.alloc, World.drew, Array.size_push] at h5 ⊢; exact h5)
         case aR => exact Kd.C_below R1.out (below_alloc (below_alloc HN.out.hB _) _)
         case aK => intro y cs h; rw [k35_open h]; exact k35_mkM _ _ _ _
         case aF => intro k hk; have h1 := HN.out.hq; (try simp only [World.alloc, World.drew, Array.size_push] at hk); (try simp only [World.alloc, World.drew, Array.size_push] at h1); omega
         case aB => exact (below_alloc (below_alloc HN.out.hB _) _)
         case aS => exact below_size (below_alloc (below_alloc HN.out.hB _) _)
         case aL => simp; omega
         intro v1 w1 ho hb hg hat
         have HL := Aside0.mk (blk_grown (blk_drew (blk_alloc (blk_new _ _) _)) hg (own_ne (by (try simp only [World.alloc, World.drew, Array.size_push]); omega)))
         have HQ2 := Aside0.mk (blk_grown (blk_alloc (blk_alloc HQ.out _) _) hg (own_ne (by have h1 := HN.out.hq; (try simp only [World.alloc, World.drew, Array.size_push] at h1); (try simp only [World.alloc, World.drew, Array.size_push]); omega)))
         clear HQ; have HQ := HQ2; clear HQ2
         have HN2 := Aside0.mk (((HN.out.alloc _).alloc _).grown hb hg (fun k hk => own_lt hk (by have h1 := HN.out.hq; (try simp only [World.alloc, World.drew, Array.size_push] at h1); (try simp only [World.alloc, World.drew, Array.size_push]); omega)))
         clear HN; have HN := HN2; clear HN2
         have HA := Aside0.mk ho
         clear ho hb hg hat)
      | (refine Kd.R_append_rows_step k35 (Rr := k35.K W) (w0 := W) W.heap.size (by rfl) (.tmp 24) (.tmp 26) 23 35 (.agg #[(.int .i64 0), (.int .u32 0), (.int .u32 0), (.int .u8 0)]) 24 rfl Try.underlying23 info35 rfl (by decide) (by omega) _ _ [x] (some ⟨_, 0, none⟩) _ 1 (fun k => q < k) (fun _ => False) rfl rfl (Kd.R_alloc HA.out _) ?aR ?aK (fun _ h => h.elim) ?aF ?aB ?aS ?aL ?_
         case aR => exact one_C x rfl (k35_mk _ x) (blk_new _ _)
         case aK => intro y cs h; rw [k35_open h]; exact k35_mkM _ _ _ _
         case aF => intro k hk; have h1 := HN.out.hq; (try simp only [World.alloc, World.drew, Array.size_push] at hk); (try simp only [World.alloc, World.drew, Array.size_push] at h1); omega
         case aB => exact (below_alloc HN.out.hB _)
         case aS => exact below_size (below_alloc HN.out.hB _)
         case aL => simp; omega
         intro v2 w2 ho hb hg hat
         rw [List.nil_append] at ho
         obtain ⟨Ao, co, hv, lo, ro⟩ := Kd.R_reads ho
         subst hv
         have HQ2 := Aside0.mk (blk_grown (blk_alloc HQ.out _) hg (fun e => by have h1 := HA.out.1 _ e.symm; omega))
         clear HQ; have HQ := HQ2; clear HQ2
         have q1 : w2.cell? ⟨q, 1, none⟩ = some (.slice A1 xs.length c1) := (blk_cell HQ.out 1).trans rfl; have qf : w2.frozen? ⟨q, 1, none⟩ = false := blk_frozen HQ.out 1
         have HN2 := Aside0.mk ((HN.out.alloc _).grown hb hg (fun k hk => HA.out.1 k hk))
         clear HN HA; have HN := HN2; clear HN2
         have HA := Aside0.mk ho
         clear ho hb hg hat)
      | (refine Kd.R_append_rows_step k35 (Rr := k35.K W) (w0 := W) W.heap.size (by rfl) (.tmp 24) (.tmp 26) 23 35 (.agg #[(.int .i64 0), (.int .u32 0), (.int .u32 0), (.int .u8 0)]) 24 rfl Try.underlying23 info35 rfl (by decide) (by omega) _ _ [x] (some ⟨_, 0, none⟩) _ 1 (fun k => q < k) (fun _ => False) rfl rfl (HA.out) ?aR ?aK (fun _ h => h.elim) ?aF ?aB ?aS ?aL ?_
         case aR => first | exact one_C x rfl (k35_mk _ x) HL.out | (have h5 := one_C (d := k35) x rfl (k35_mk _ x) HL.out; simp only [World.alloc, World.drew, Array.size_push] at h5; exact h5)
         case aK => intro y cs h; rw [k35_open h]; exact k35_mkM _ _ _ _
         case aF => intro k hk; have h1 := HN.out.hq; (try simp only [World.alloc, World.drew, Array.size_push] at hk); (try simp only [World.alloc, World.drew, Array.size_push] at h1); omega
         case aB => exact HN.out.hB
         case aS => exact below_size HN.out.hB
         case aL => simp; omega
         intro v2 w2 ho hb hg hat
         rw [List.nil_append] at ho
         obtain ⟨Ao, co, hv, lo, ro⟩ := Kd.R_reads ho
         subst hv
         have HQ2 := Aside0.mk (blk_grown HQ.out hg (fun e => by have h1 := HA.out.1 _ e.symm; omega))
         clear HQ; have HQ := HQ2; clear HQ2
         have q1 : w2.cell? ⟨q, 1, none⟩ = some (.slice A1 xs.length c1) := (blk_cell HQ.out 1).trans rfl; have qf : w2.frozen? ⟨q, 1, none⟩ = false := blk_frozen HQ.out 1
         have HN2 := Aside0.mk (HN.out.grown hb hg (fun k hk => HA.out.1 k hk))
         clear HN HA; have HN := HN2; clear HN2
         have HA := Aside0.mk ho
         clear ho hb hg hat))
  all_goals
    have H5 := Aside0.mk (HN.out.set (.slice Ao (xs.length + 1) co))
    have HQ5 : Aside0 (((w2.setCell ⟨q, 1, none⟩ (.slice Ao (xs.length + 1) co))).heap[q]? = some (.cells #[.bool p, .slice Ao (xs.length + 1) co, .slice A2 ys.length c2] 26 (0, 0))) := ⟨blk_put HQ.out 1 _ rfl⟩
    have RO := Aside0.mk (Kd.R_reads' (Kd.R_set HA.out HQ.out (by decide) 1 (.slice Ao (xs.length + 1) co))).2
    clear HN HQ HA q1 qf lo ro
    generalize w2.setCell ⟨q, 1, none⟩ (.slice Ao (xs.length + 1) co) = w5 at *
    go_wp2
    have HN := Aside0.mk (below_drew (Below.refl w5.heap.size w5))
    have HQ := HQ5
    clear HQ5
    go_region_held3 (fun w => Aside0 (Below w5.heap.size w5 w) ∧
      (w.cell? ⟨W.heap.size, 0, none⟩ = some (.bool p) ∧ w.cell? ⟨W.heap.size, 1, none⟩ = some (.slice A1 xs.length c1) ∧ w.cell? ⟨W.heap.size, 2, none⟩ = some (.slice A2 ys.length c2)) ∧
      (w.cell? ⟨W.heap.size + 1, 0, none⟩ = some (.int .i64 x.f0) ∧ w.cell? ⟨W.heap.size + 1, 1, none⟩ = some (.int .u32 x.f1) ∧ w.cell? ⟨W.heap.size + 1, 2, none⟩ = some (.int .u32 x.f2) ∧ w.cell? ⟨W.heap.size + 1, 3, none⟩ = some (.int .u8 x.f3)) ∧
      (w.cell? ⟨q, 0, none⟩ = some (.bool p) ∧ w.cell? ⟨q, 1, none⟩ = some (.slice Ao (xs.length + 1) co) ∧ w.cell? ⟨q, 2, none⟩ = some (.slice A2 ys.length c2)))
      (exact all2 H5.out HQ.out HN.out)
      (first
        | (go_at_call 12; have fl := FL; have h9 := policy_Policy_Label.calls k p Ao co (xs ++ [x]) A2 c2 ys kind arg lb _ (Kd.C_below RO.out.2 HN.out) RO.out.1 (Kd.C_below R2.out (below_step H5.out.hB HN.out)) L2.out hb.out; rw [List.length_append, List.length_singleton] at h9; refine h9.mono ?_; clear h9; rintro e w6 ⟨rfl, hb9⟩; have HN2 := Aside0.mk (below_step HN.out hb9); clear HN hb9; have HN := HN2; clear HN2)
        | (go_at_call 12; refine (policy_Policy_Label.calls k p A1 c1 xs A2 c2 ys kind arg la _ (Kd.C_below R1.out (below_step H5.out.hB HN.out)) L1.out (Kd.C_below R2.out (below_step H5.out.hB HN.out)) L2.out ha.out).mono ?_; rintro e w6 ⟨rfl, hb9⟩; have HN2 := Aside0.mk (below_step HN.out hb9); clear HN hb9; have HN := HN2; clear HN2; have FL := Aside0.mk trivial))
  all_goals
    generalize w6 = w7 at *
    have HB := Aside0.mk (below_step H5.out.hB HN.out)
    have C1 := (all2 H5.out HQ.out HN.out).2
    obtain ⟨⟨p0, p1, p2⟩, ⟨s0, s1, s2, s3⟩, q0, q1, q2⟩ := C1
    clear HN H5 HQ RO
    go_wp2_with fail
  all_goals
    refine (policy_Policy_Hits.calls k p A1 c1 xs A2 c2 ys kind a7 l hs _ (Kd.C_below R1.out HB.out) L1.out (Kd.C_below R2.out HB.out) L2.out hc.out).mono ?_
    rintro e w8 ⟨v6, rfl, hr9, hb9⟩
    obtain ⟨A6, c6, hv6, le6, C6⟩ := Kd.R_reads hr9
    subst hv6
    have P6 := Aside0.mk C6; have Q6 := Aside0.mk le6
    have HB2 := Aside0.mk (below_step HB.out hb9)
    have g0 : w8.cell? ⟨W.heap.size, 0, none⟩ = some (.bool p) := pw_cell_below hb9 p0
    have g1 : w8.cell? ⟨W.heap.size, 1, none⟩ = some (.slice A1 xs.length c1) := pw_cell_below hb9 p1
    have g2 : w8.cell? ⟨W.heap.size, 2, none⟩ = some (.slice A2 ys.length c2) := pw_cell_below hb9 p2
    have g3 : w8.cell? ⟨W.heap.size + 1, 3, none⟩ = some (.int .u8 x.f3) := pw_cell_below hb9 s3
    clear p0 p1 p2 s0 s1 s2 s3 q0 q1 q2 HB hb9 hr9 C6 le6
    go_wp2
  all_goals
    clear HH FL
    try clear HL
    go_loopw [15] (fun i wr => ∃ j : Int, 0 ≤ j ∧ j ≤ hs.length ∧ i = .int .i64 j ∧ Aside0 (Below w8.heap.size w8 wr)) (fun i _ => (hs.length - intOf i).toNat)
    case atStart => exact ⟨0, by omega, by omega, rfl, ⟨Below.refl _ _⟩⟩
    case round =>
      obtain ⟨j, hj0, hj, rfl, hbj⟩ := hrel
      by_cases hlt : j < hs.length
      · obtain ⟨ad, rfl, hc0⟩ := Kd.at_int P6.out j (by omega) (by omega)
        obtain ⟨u1, u2, u3, u4⟩ := hpure.out j hj0 hlt
        obtain ⟨ad2, rfl, -, -, hc2⟩ := at_T37 (Kd.C_below R2.out HB2.out) (rd hs j) u1 (by omega)
        generalize hm : (rd_T37 ys (rd hs j)).f2 = m at *
        generalize hh : rd hs j = h at *
        have HP := P6
        have d1 : decide (h < 0) = false := decide_eq_false (by omega)
        have d2 : decide ((ys.length : Int) ≤ h) = false := decide_eq_false (by omega)
        have d3 : (Go.bits .and .u8 m l == 0) = false := beq_eq_false_iff_ne.mpr u3
        by_cases hjz : j = 0
        · subst hjz
          have c1 := pw_cell_below hbj.out g2; have c3 := pw_cell_below hbj.out hc2
          have hc1 : wr.cell? ad = some (.int .i64 h) := pw_cell_below hbj.out hc0
          go_wp2
          go_quiet (fail)
          go_wp2
          exact ⟨⟨1, by omega, by omega, rfl, ⟨pw_below_drewN hbj.out _⟩⟩, by simp [intOf]; omega⟩
        · have u5 := u4 (by omega)
          have d4 : decide (0 < j) = true := decide_eq_true (by omega)
          have hj1 : IntKind.i64.wrap (j - 1) = j - 1 := by have h4 := hlen.out; exact IntWalk.i64_in _ (by omega)
          obtain ⟨ad3, e3, hc3⟩ := Kd.at_int HP.out (j - 1) (by omega) (by omega)
          obtain rfl : ad = ad3 := by simpa using e3
          generalize hh0 : rd hs (j - 1) = h0 at *
          have b1 : 0 ≤ j - 1 := by omega
          have b2 : 1 ≤ j := by omega
          have b3 : j - 1 < (hs.length : Int) := by omega
          have d5 : decide (h ≤ h0) = false := decide_eq_false (by omega)
          have c0 := pw_cell_below hbj.out hc0; have c1 := pw_cell_below hbj.out g2; have c2_ := pw_cell_below hbj.out hc3; have c3 := pw_cell_below hbj.out hc2
          have c4 : wr.cell? (ad.add (j.toNat - 1)) = some (.int .i64 h0) := by rw [show j.toNat - 1 = (j - 1).toNat from by omega]; exact c2_
          go_wp2
          go_quiet (fail)
          go_wp2
          have hw : wrap64 (j + 1) = j + 1 := by unfold wrap64; have := hlen.out; omega
          rw [hw]
          exact ⟨⟨j + 1, by omega, by omega, rfl, ⟨pw_below_drewN hbj.out _⟩⟩, by simp [intOf]; omega⟩
      · obtain rfl : j = hs.length := by omega
        have m0 := pw_cell_below hbj.out g0; have m1 := pw_cell_below hbj.out g1; have m2 := pw_cell_below hbj.out g2; have m3 := pw_cell_below hbj.out g3
        go_wp2_with fail
        refine (policy_Policy_Hits.calls k p A1 c1 xs A2 c2 ys kind a7 0 [] _ (Kd.C_below R1.out (below_step HB2.out hbj.out)) L1.out (Kd.C_below R2.out (below_step HB2.out hbj.out)) L2.out hd.out).mono ?_
        rintro e w9 ⟨v9, rfl, hr9, hb9⟩
        obtain ⟨A9, c9, hv9, le9, C9⟩ := Kd.R_reads hr9
        subst hv9
        have HN2 := Aside0.mk (below_step (below_step HB2.out hbj.out) hb9)
        clear hb9 hr9 C9 le9
        go_wp2
        go_ret
        exact ⟨rfl, HN2.out⟩
set_option maxHeartbeats 1000000 in
set_option maxRecDepth 100000 in
theorem long_run (W : World) (p : Bool) (xs : List S35) (ys : List S37) (x : S35) (A1 : Option Addr) (c1 : Nat) (A2 : Option Addr) (c2 : Nat) (l1 : xs.length ≤ c1) (r1 : Kd.C k35 W A1 xs.length xs) (l2 : ys.length ≤ c2) (r2 : Kd.C k37 W A2 ys.length ys)
    (kind arg l : Int) (hlong : Aside0 (tincturelaw7_long.f p xs ys = some true)) :
    Calls Try.prog 7 #[.agg #[.bool p, .slice A1 xs.length c1, .slice A2 ys.length c2], .agg #[.int .i64 x.f0, .int .u32 x.f1, .int .u32 x.f2, .int .u8 x.f3], .int .i64 kind, .int .u32 arg, .int .u8 l] W fun e w' => e = .returned (.bool true) ∧ Below W.heap.size W w' := by
  have R1 := Aside0.mk r1; have R2 := Aside0.mk r2; have L1 := Aside0.mk l1; have L2 := Aside0.mk l2
  clear r1 r2 l1 l2
  have hu26 := Try.underlying26
  go_enter Try.func7, Try.ntmps7
  go_wp2_with fail
  have hx := below_alloc (below_alloc (Below.refl W.heap.size W) (.cells #[.bool p, .slice A1 xs.length c1, .slice A2 ys.length c2] 26)) (.cells #[.int .i64 x.f0, .int .u32 x.f1, .int .u32 x.f2, .int .u8 x.f3] 35)
  have hg := blk_alloc (blk_new W (.cells #[.bool p, .slice A1 xs.length c1, .slice A2 ys.length c2] 26)) (.cells #[.int .i64 x.f0, .int .u32 x.f1, .int .u32 x.f2, .int .u8 x.f3] 35)
  refine (Awake.awake _).mono ?_
  rintro e w1 ⟨rfl, hb1⟩
  have HB := Aside0.mk (below_step hx hb1); have G := Aside0.mk (blk_below hg hb1)
  clear hx hg hb1
  have q0 : w1.cell? ⟨W.heap.size, 0, none⟩ = some (.bool p) := (blk_cell G.out 0).trans rfl
  have q1 : w1.cell? ⟨W.heap.size, 1, none⟩ = some (.slice A1 xs.length c1) := (blk_cell G.out 1).trans rfl
  have q2 : w1.cell? ⟨W.heap.size, 2, none⟩ = some (.slice A2 ys.length c2) := (blk_cell G.out 2).trans rfl
  go_wp2_with fail
  refine (tincturelaw7_long.calls p A1 c1 xs A2 c2 ys true _ (Kd.C_below R1.out HB.out) L1.out (Kd.C_below R2.out HB.out) L2.out hlong.out).mono ?_
  rintro e w2 ⟨rfl, hb1⟩
  have n1 := Aside0.mk (below_step HB.out hb1)
  clear HB G hb1 q0 q1 q2
  go_wp2
  go_ret
  exact ⟨rfl, n1.out⟩
theorem and7 (x : Int) : 0 ≤ Go.bits .and .u32 x 7 ∧ Go.bits .and .u32 x 7 ≤ 7 := by
  have e : Go.bits .and .u32 x 7 = IntKind.u32.wrap ((BitVec.ofInt 32 x &&& 7#32 : BitVec 32).toNat : Int) := rfl
  have h : (BitVec.ofInt 32 x &&& 7#32 : BitVec 32).toNat ≤ 7 := by rw [BitVec.toNat_and]; exact Nat.and_le_right
  have w : IntKind.u32.wrap ((BitVec.ofInt 32 x &&& 7#32 : BitVec 32).toNat : Int) = ((BitVec.ofInt 32 x &&& 7#32 : BitVec 32).toNat : Int) % 4294967296 := rfl
  rw [e, w]; omega
theorem walk (W : World) (x0 : (Bool × List (S35) × List (S37))) (wx0 : wf26 x0) (A0_1 : Option Addr) (c0_1 : Nat) (l0_0 : x0.2.1.length ≤ c0_1) (r0_0 : Kd.C k35 W A0_1 x0.2.1.length x0.2.1) (A0_2 : Option Addr) (c0_2 : Nat) (l0_1 : x0.2.2.length ≤ c0_2) (r0_1 : Kd.C k37 W A0_2 x0.2.2.length x0.2.2) (x1 : S35) (wx1 : wf35 x1) (x2 : Int) (wx2 : (Lit.int .i64 x2).wf = true) (x3 : Int) (wx3 : (Lit.int .u32 x3).wf = true) (x4 : Int) (wx4 : (Lit.int .u8 x4).wf = true) :
    Calls Try.prog 7 #[.agg #[.bool x0.1, .slice A0_1 x0.2.1.length c0_1, .slice A0_2 x0.2.2.length c0_2], .agg #[.int .i64 x1.f0, .int .u32 x1.f1, .int .u32 x1.f2, .int .u8 x1.f3], .int .i64 x2, .int .u32 x3, .int .u8 x4] W fun e w' => e = .returned (.bool true) ∧ Below W.heap.size W w' := by
  by_cases h : x0.2.1.length > 40 ∨ x0.2.2.length > 40
  · exact long_run W x0.1 x0.2.1 x0.2.2 x1 A0_1 c0_1 A0_2 c0_2 l0_0 r0_0 l0_1 r0_1 x2 x3 x4 ⟨by rw [long_at, decide_eq_true h]⟩
  · have h1 : x0.2.1.length ≤ 40 := by omega
    have h2 : x0.2.2.length ≤ 40 := by omega
    have h3 := hitsP_length x2 (Go.bits .and .u32 x3 7) x4 x0.2.2 0
    have h4 : labelP (x0.2.1 ++ [x1]) x2 x3 = stepS x2 x3 (labelP x0.2.1 x2 x3) x1 := by unfold labelP; rw [List.foldl_append]; rfl
    have h5 : Go.bits .andNot .u8 (labelP x0.2.1 x2 x3) (labelP (x0.2.1 ++ [x1]) x2 x3) = 0 := by
      rw [h4]; unfold stepS; split
      · exact MorePure.up1 _ _
      · exact MorePure.up0 _
    have h6 : Go.bits .andNot .u8 (labelP (x0.2.1 ++ [x1]) x2 x3) (Go.bits .or .u8 (labelP x0.2.1 x2 x3) x1.f3) = 0 := by
      rw [h4]; unfold stepS; split
      · exact MorePure.up0 _
      · exact MorePure.up1 _ _
    exact run W x0.1 x0.2.1 x0.2.2 x1 A0_1 c0_1 A0_2 c0_2 l0_0 r0_0 l0_1 r0_1 x2 x3 _ x4 (labelP x0.2.1 x2 x3) (labelP (x0.2.1 ++ [x1]) x2 x3) (hitsP x2 (Go.bits .and .u32 x3 7) x4 0 x0.2.2) 100 h1 (and7 x3).1 (and7 x3).2 rfl
      ⟨by omega⟩ ⟨MorePure.hpure _ _ _ _⟩ (beq_iff_eq.mpr h5) (beq_iff_eq.mpr h6)
      ⟨by rw [long_at, decide_eq_false h]⟩ ⟨label_at 100 _ _ _ _ _ (by omega) (by omega)⟩ ⟨label_at 100 _ _ _ _ _ (by simp; omega) (by simp; omega)⟩
      ⟨hits_at 100 _ _ _ _ _ _ (by omega) (by omega)⟩ ⟨by rw [hits_at 100 _ _ _ _ _ _ (by omega) (by omega), MorePure.hits0]⟩
end Go.Proofs.Ytlhoaejkjhdlgaa.PolicyMore
