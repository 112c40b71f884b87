/- The walk of PolicySays, and that its answer is true: what any policy labels, what it watches for, is as the document says. -/
import Derived.Test.YtlhoaejkjhdlgaaAwake
import Derived.Test.YtlhoaejkjhdlgaaOpenTPolicySays
import Derived.Test.YtlhoaejkjhdlgaaPlainPPolicySays
import Derived.Test.YtlhoaejkjhdlgaaPPolicySaysx3
import Derived.Test.YtlhoaejkjhdlgaaPPolicySaysx4
import Derived.Test.YtlhoaejkjhdlgaaPPolicySaysx5
import Derived.Deep.RegionHeld3
import Derived.Deep.DrawnRows
import Derived.WalkKit
import Derived.Outline
namespace Go.Proofs.Ytlhoaejkjhdlgaa.PolicySays
open Go Go.RowKit Go.Proofs.Ytlhoaejkjhdlgaa.OpenTPolicySays Go.Proofs.Ytlhoaejkjhdlgaa.PPolicySays Go.Proofs.YtlhoaejkjhdlgaaW.PrintWords Go.Proofs.YtlhoaejkjhdlgaaW.PrintLast Go.Proofs.YtlhoaejkjhdlgaaW.PrintMore
set_option linter.unusedVariables false
set_option linter.unusedSimpArgs false
attribute [local go_sem ↓] Go.wp_at_zero Go.wp_at_succ
/-- What the law reads in its last statement: the policy at g, the document's at q. -/
structure Held (W w' : World) (g q : Nat) (p : Bool) (A1 : Option Addr) (n1 c1 : Nat) (A2 : Option Addr) (n2 c2 : Nat) (B1 : Option Addr) (m1 e1 : Nat) (B2 : Option Addr) (m2 e2 : Nat) (xs : List S35) (ys : List S37) (us : List S70) (vs : List S71) : Prop where
  hg : w'.heap[g]? = some (.cells #[.bool p, .slice A1 n1 c1, .slice A2 n2 c2] 26 (0, 0))
  hq : w'.heap[q]? = some (.cells #[.bool p, .slice B1 m1 e1, .slice B2 m2 e2] 46 (0, 0))
  h1 : Kd.C k35 w' A1 n1 xs
  h2 : Kd.C k37 w' A2 n2 ys
  h3 : Kd.C k70 w' B1 m1 us
  h4 : Kd.C k71 w' B2 m2 vs
  hB : Below W.heap.size W w'
section
variable {W w w' : World} {g q : Nat} {p : Bool} {A1 : Option Addr} {n1 c1 : Nat} {A2 : Option Addr} {n2 c2 : Nat} {B1 : Option Addr} {m1 e1 : Nat} {B2 : Option Addr} {m2 e2 : Nat} {xs : List S35} {ys : List S37} {us : List S70} {vs : List S71}
theorem Held.below (h : Held W w g q p A1 n1 c1 A2 n2 c2 B1 m1 e1 B2 m2 e2 xs ys us vs) (hb : Below w.heap.size w w') : Held W w' g q p A1 n1 c1 A2 n2 c2 B1 m1 e1 B2 m2 e2 xs ys us vs :=
  ⟨blk_below h.hg hb, blk_below h.hq hb, Kd.C_below h.h1 hb, Kd.C_below h.h2 hb, Kd.C_below h.h3 hb, Kd.C_below h.h4 hb, below_step h.hB hb⟩
theorem Held.all (h : Held W w g q p A1 n1 c1 A2 n2 c2 B1 m1 e1 B2 m2 e2 xs ys us vs) : Aside0 (Held W w g q p A1 n1 c1 A2 n2 c2 B1 m1 e1 B2 m2 e2 xs ys us vs) ∧
      w.cell? ⟨g, 0, none⟩ = some (.bool p) ∧ w.cell? ⟨g, 1, none⟩ = some (.slice A1 n1 c1) ∧ w.cell? ⟨g, 2, none⟩ = some (.slice A2 n2 c2) ∧
      w.cell? ⟨q, 0, none⟩ = some (.bool p) ∧ w.cell? ⟨q, 1, none⟩ = some (.slice B1 m1 e1) ∧ w.cell? ⟨q, 2, none⟩ = some (.slice B2 m2 e2) :=
  ⟨⟨h⟩, (blk_cell h.hg 0).trans rfl, (blk_cell h.hg 1).trans rfl, (blk_cell h.hg 2).trans rfl, (blk_cell h.hq 0).trans rfl, (blk_cell h.hq 1).trans rfl, (blk_cell h.hq 2).trans rfl⟩
end
set_option maxHeartbeats 4000000 in
set_option maxRecDepth 100000 in
theorem run (W : World) (p : Bool) (xs : List S35) (ys : List S37) (A1 : Option Addr) (c1 : Nat) (A2 : Option Addr) (c2 : Nat) (l1 : xs.length ≤ c1) (r1 : Kd.C k35 W A1 xs.length xs) (l2 : ys.length ≤ c2) (r2 : Kd.C k37 W A2 ys.length ys)
    (kind arg n l : Int) (us : List S70) (vs : List S71) (lab : Int) (hs : List Int) (k : Nat) (hlong : Aside0 (tincturelaw7_long.f p xs ys = some false)) (hpol : Aside0 (tincturelaw7_pol.f k p xs ys = some (p, us, vs)))
    (ha : Aside0 (policy_Policy_Label.f k p xs ys kind arg = some lab)) (hb : Aside0 (tinctureref7_Policy_Label.f k p us vs kind arg = some lab))
    (hc : Aside0 (policy_Policy_Hits.f k p xs ys kind n l = some hs)) (hd : Aside0 (tinctureref7_Policy_Hits.f k p us vs kind n l = some hs)) (he : Aside0 (tincturelaw7_places.f k hs hs = some true)) :
    Calls Try.prog 5 #[.agg #[.bool p, .slice A1 xs.length c1, .slice A2 ys.length c2], .int .i64 kind, .int .u32 arg, .int .i64 n, .int .u8 l] W fun e w' => e = .returned (.bool true) ∧ Below W.heap.size W w' := by
  have R1 := Aside0.mk r1; have R2 := Aside0.mk r2; have L1 := Aside0.mk l1; have L2 := Aside0.mk l2
  clear r1 r2 l1 l2
  have hu26 := Try.underlying26
  have hu46 := Try.underlying46
  go_enter Try.func5, Try.ntmps5
  go_wp2_with fail
  have hx := below_alloc (Below.refl W.heap.size W) (.cells #[.bool p, .slice A1 xs.length c1, .slice A2 ys.length c2] 26)
  have hg := blk_new W (.cells #[.bool p, .slice A1 xs.length c1, .slice A2 ys.length c2] 26)
  refine (Awake.awake _).mono ?_
  rintro e w1 ⟨rfl, hb1⟩
  have HB := Aside0.mk (below_step hx hb1); have G := Aside0.mk (blk_below hg hb1)
  clear hx hg hb1
  have q0 : w1.cell? ⟨W.heap.size, 0, none⟩ = some (.bool p) := (blk_cell G.out 0).trans rfl
  have q1 : w1.cell? ⟨W.heap.size, 1, none⟩ = some (.slice A1 xs.length c1) := (blk_cell G.out 1).trans rfl
  have q2 : w1.cell? ⟨W.heap.size, 2, none⟩ = some (.slice A2 ys.length c2) := (blk_cell G.out 2).trans rfl
  go_wp2_with fail
  refine (tincturelaw7_long.calls p A1 c1 xs A2 c2 ys false _ (Kd.C_below R1.out HB.out) L1.out (Kd.C_below R2.out HB.out) L2.out hlong.out).mono ?_
  rintro e w2 ⟨rfl, hb1⟩
  have n1 := Aside0.mk (below_step HB.out hb1); have n2 := Aside0.mk (blk_below G.out hb1)
  clear HB G hb1 q0 q1 q2
  have q0 : w2.cell? ⟨W.heap.size, 0, none⟩ = some (.bool p) := (blk_cell n2.out 0).trans rfl
  have q1 : w2.cell? ⟨W.heap.size, 1, none⟩ = some (.slice A1 xs.length c1) := (blk_cell n2.out 1).trans rfl
  have q2 : w2.cell? ⟨W.heap.size, 2, none⟩ = some (.slice A2 ys.length c2) := (blk_cell n2.out 2).trans rfl
  go_wp2_with fail
  refine (tincturelaw7_pol.calls k p A1 c1 xs A2 c2 ys p us vs _ (Kd.C_below R1.out n1.out) L1.out (Kd.C_below R2.out n1.out) L2.out hpol.out).mono ?_
  rintro e w3 ⟨v1, v2, rfl, h1, h2, hb1⟩
  obtain ⟨B1, e1, hv1, f1, C1⟩ := Kd.R_reads h1
  obtain ⟨B2, e2, hv2, f2, C2⟩ := Kd.R_reads h2
  subst hv1; subst hv2
  have HB := Aside0.mk (below_step n1.out hb1); have G := Aside0.mk (blk_below n2.out hb1); have CC1 := Aside0.mk C1; have CC2 := Aside0.mk C2; have F1 := Aside0.mk f1; have F2 := Aside0.mk f2
  clear n1 n2 h1 h2 hb1 C1 C2 f1 f2 q0 q1 q2
  go_wp2
  have hal := below_alloc (Below.refl w3.heap.size w3) (.cells #[.bool p, .slice B1 us.length e1, .slice B2 vs.length e2] 46)
  have H0 : Held W (w3.alloc (.cells #[.bool p, .slice B1 us.length e1, .slice B2 vs.length e2] 46)) W.heap.size w3.heap.size p A1 xs.length c1 A2 ys.length c2 B1 us.length e1 B2 vs.length e2 xs ys us vs :=
    ⟨blk_below G.out hal, blk_new _ _, Kd.C_below R1.out (below_step HB.out hal), Kd.C_below R2.out (below_step HB.out hal), Kd.C_below CC1.out hal, Kd.C_below CC2.out hal, below_step HB.out hal⟩
  have HH := Aside0.mk H0
  clear hal H0 HB G CC1 CC2
  generalize w3.alloc (.cells #[.bool p, .slice B1 us.length e1, .slice B2 vs.length e2] 46) = w4 at *
  generalize w3.heap.size = q at *
  have q0 : w4.cell? ⟨W.heap.size, 0, none⟩ = some (.bool p) := (blk_cell HH.out.hg 0).trans rfl
  have q1 : w4.cell? ⟨W.heap.size, 1, none⟩ = some (.slice A1 xs.length c1) := (blk_cell HH.out.hg 1).trans rfl
  have q2 : w4.cell? ⟨W.heap.size, 2, none⟩ = some (.slice A2 ys.length c2) := (blk_cell HH.out.hg 2).trans rfl
  have q3 : w4.cell? ⟨q, 0, none⟩ = some (.bool p) := (blk_cell HH.out.hq 0).trans rfl
  have q4 : w4.cell? ⟨q, 1, none⟩ = some (.slice B1 us.length e1) := (blk_cell HH.out.hq 1).trans rfl
  have q5 : w4.cell? ⟨q, 2, none⟩ = some (.slice B2 vs.length e2) := (blk_cell HH.out.hq 2).trans rfl
  clear q0 q1 q2 q3 q4 q5
  have HN := Aside0.mk (HH.out.below (below_drew (Below.refl w4.heap.size w4)))
  go_region_held3 (fun w' => Aside0 (Held W w' W.heap.size q p A1 xs.length c1 A2 ys.length c2 B1 us.length e1 B2 vs.length e2 xs ys us vs) ∧
      w'.cell? ⟨W.heap.size, 0, none⟩ = some (.bool p) ∧ w'.cell? ⟨W.heap.size, 1, none⟩ = some (.slice A1 xs.length c1) ∧ w'.cell? ⟨W.heap.size, 2, none⟩ = some (.slice A2 ys.length c2) ∧
      w'.cell? ⟨q, 0, none⟩ = some (.bool p) ∧ w'.cell? ⟨q, 1, none⟩ = some (.slice B1 us.length e1) ∧ w'.cell? ⟨q, 2, none⟩ = some (.slice B2 vs.length e2))
    (exact Held.all HN.out)
    (first
      | (go_at_call 12; refine (policy_Policy_Label.calls k p A1 c1 xs A2 c2 ys kind arg lab _ HN.out.h1 L1.out HN.out.h2 L2.out ha.out).mono ?_; rintro e w5 ⟨rfl, hb9⟩; have HN2 := Aside0.mk (HN.out.below hb9); clear HN hb9; have HN := HN2; clear HN2)
      | (go_at_call 20; refine (tinctureref7_Policy_Label.calls k p B1 e1 us B2 e2 vs kind arg lab _ HN.out.h3 F1.out HN.out.h4 F2.out hb.out).mono ?_; rintro e w5 ⟨rfl, hb9⟩; have HN2 := Aside0.mk (HN.out.below hb9); clear HN hb9; have HN := HN2; clear HN2)
      | (go_at_call 14; refine (policy_Policy_Hits.calls k p A1 c1 xs A2 c2 ys kind n l hs _ HN.out.h1 L1.out HN.out.h2 L2.out hc.out).mono ?_; rintro e w5 ⟨v6, rfl, hr9, hb9⟩; obtain ⟨A6, c6, hv6, le6, C6⟩ := Kd.R_reads hr9; subst hv6; have P6 := Aside0.mk C6; have Q6 := Aside0.mk le6; have HN2 := Aside0.mk (HN.out.below hb9); clear HN hb9 hr9 C6 le6; have HN := HN2; clear HN2)
      | (go_at_call 21; refine (tinctureref7_Policy_Hits.calls k p B1 e1 us B2 e2 vs kind n l hs _ HN.out.h3 F1.out HN.out.h4 F2.out hd.out).mono ?_; rintro e w5 ⟨v7, rfl, hr9, hb9⟩; obtain ⟨A7, c7, hv7, le7, C7⟩ := Kd.R_reads hr9; subst hv7; have P7 := Aside0.mk C7; have Q7 := Aside0.mk le7; have P62 := Aside0.mk (Kd.C_below P6.out hb9); have HN2 := Aside0.mk (HN.out.below hb9); clear HN hb9 hr9 C7 le7 P6; have HN := HN2; have P6 := P62; clear HN2 P62)
      | (go_at_call 13; refine (tincturelaw7_places.calls k A6 c6 hs A7 c7 hs true _ P6.out Q6.out P7.out Q7.out he.out).mono ?_; rintro e w5 ⟨rfl, hd9⟩; have HN2 := Aside0.mk (HN.out.below hd9.below); clear HN hd9; have HN := HN2; clear HN2))
  all_goals
    go_wp2
    go_ret
    exact ⟨rfl, HN.out.hB⟩
set_option maxHeartbeats 1000000 in
set_option maxRecDepth 100000 in
theorem long_run (W : World) (p : Bool) (xs : List S35) (ys : List S37) (A1 : Option Addr) (c1 : Nat) (A2 : Option Addr) (c2 : Nat) (l1 : xs.length ≤ c1) (r1 : Kd.C k35 W A1 xs.length xs) (l2 : ys.length ≤ c2) (r2 : Kd.C k37 W A2 ys.length ys)
    (kind arg n l : Int) (hlong : Aside0 (tincturelaw7_long.f p xs ys = some true)) :
    Calls Try.prog 5 #[.agg #[.bool p, .slice A1 xs.length c1, .slice A2 ys.length c2], .int .i64 kind, .int .u32 arg, .int .i64 n, .int .u8 l] W fun e w' => e = .returned (.bool true) ∧ Below W.heap.size W w' := by
  have R1 := Aside0.mk r1; have R2 := Aside0.mk r2; have L1 := Aside0.mk l1; have L2 := Aside0.mk l2
  clear r1 r2 l1 l2
  have hu26 := Try.underlying26
  go_enter Try.func5, Try.ntmps5
  go_wp2_with fail
  have hx := below_alloc (Below.refl W.heap.size W) (.cells #[.bool p, .slice A1 xs.length c1, .slice A2 ys.length c2] 26)
  have hg := blk_new W (.cells #[.bool p, .slice A1 xs.length c1, .slice A2 ys.length c2] 26)
  refine (Awake.awake _).mono ?_
  rintro e w1 ⟨rfl, hb1⟩
  have HB := Aside0.mk (below_step hx hb1); have G := Aside0.mk (blk_below hg hb1)
  clear hx hg hb1
  have q0 : w1.cell? ⟨W.heap.size, 0, none⟩ = some (.bool p) := (blk_cell G.out 0).trans rfl
  have q1 : w1.cell? ⟨W.heap.size, 1, none⟩ = some (.slice A1 xs.length c1) := (blk_cell G.out 1).trans rfl
  have q2 : w1.cell? ⟨W.heap.size, 2, none⟩ = some (.slice A2 ys.length c2) := (blk_cell G.out 2).trans rfl
  go_wp2_with fail
  refine (tincturelaw7_long.calls p A1 c1 xs A2 c2 ys true _ (Kd.C_below R1.out HB.out) L1.out (Kd.C_below R2.out HB.out) L2.out hlong.out).mono ?_
  rintro e w2 ⟨rfl, hb1⟩
  have n1 := Aside0.mk (below_step HB.out hb1)
  clear HB G hb1 q0 q1 q2
  go_wp2
  go_ret
  exact ⟨rfl, n1.out⟩
open Go.Proofs.Ytlhoaejkjhdlgaa.PlainPPolicySays
theorem walk (W : World) (x0 : (Bool × List (S35) × List (S37))) (wx0 : wf26 x0) (A0_1 : Option Addr) (c0_1 : Nat) (l0_0 : x0.2.1.length ≤ c0_1) (r0_0 : Kd.C k35 W A0_1 x0.2.1.length x0.2.1) (A0_2 : Option Addr) (c0_2 : Nat) (l0_1 : x0.2.2.length ≤ c0_2) (r0_1 : Kd.C k37 W A0_2 x0.2.2.length x0.2.2) (x1 : Int) (wx1 : (Lit.int .i64 x1).wf = true) (x2 : Int) (wx2 : (Lit.int .u32 x2).wf = true) (x3 : Int) (wx3 : (Lit.int .i64 x3).wf = true) (x4 : Int) (wx4 : (Lit.int .u8 x4).wf = true) :
    Calls Try.prog 5 #[.agg #[.bool x0.1, .slice A0_1 x0.2.1.length c0_1, .slice A0_2 x0.2.2.length c0_2], .int .i64 x1, .int .u32 x2, .int .i64 x3, .int .u8 x4] W fun e w' => e = .returned (.bool true) ∧ Below W.heap.size W w' := by
  by_cases h : x0.2.1.length > 40 ∨ x0.2.2.length > 40
  · exact long_run W x0.1 x0.2.1 x0.2.2 A0_1 c0_1 A0_2 c0_2 l0_0 r0_0 l0_1 r0_1 x1 x2 x3 x4 ⟨by rw [long_at, decide_eq_true h]⟩
  · have h1 : x0.2.1.length ≤ 40 := by omega
    have h2 : x0.2.2.length ≤ 40 := by omega
    have h3 := hitsP_length x1 x3 x4 x0.2.2 0
    exact run W x0.1 x0.2.1 x0.2.2 A0_1 c0_1 A0_2 c0_2 l0_0 r0_0 l0_1 r0_1 x1 x2 x3 x4 (x0.2.1.map cS) (x0.2.2.map cK) (labelP x0.2.1 x1 x2) (hitsP x1 x3 x4 0 x0.2.2) 100
      ⟨by rw [long_at, decide_eq_false h]⟩ ⟨pol_at 100 _ _ _ (by omega) (by omega) (by omega)⟩ ⟨label_at 100 _ _ _ _ _ (by omega) (by omega)⟩ ⟨rlabel_at 100 _ _ _ _ _ (by omega) (by omega)⟩
      ⟨hits_at 100 _ _ _ _ _ _ (by omega) (by omega)⟩ ⟨rhits_at 100 _ _ _ _ _ _ (by omega) (by omega)⟩ ⟨places_at 100 _ (by omega) (by omega)⟩
end Go.Proofs.Ytlhoaejkjhdlgaa.PolicySays
