/- A policy is read back; unlike ones have unlike bytes; cut off it is none: the plain function that the walk computes answers true. -/
import Derived.Test.YtlhoaejkjhdlgaaBack
import Derived.Test.YtlhoaejkjhdlgaaPutPure
import Derived.Test.YtlhoaejkjhdlgaaOpenTPolicyBytes
namespace Go.Proofs.Ytlhoaejkjhdlgaa.PolicyBack
open Go Go.RowKit Go.Proofs.Ytlhoaejkjhdlgaa.OpenTPolicyBytes Go.Proofs.Ytlhoaejkjhdlgaa.PPolicyBytes Go.Proofs.YtlhoaejkjhdlgaaW.PrintWords Go.Proofs.YtlhoaejkjhdlgaaW.PrintLast Go.Proofs.YtlhoaejkjhdlgaaW.PrintMore Go.Proofs.Ytlhoaejkjhdlgaa.PutPure Go.Proofs.Ytlhoaejkjhdlgaa.Good Go.Proofs.Ytlhoaejkjhdlgaa.Get Go.Proofs.Ytlhoaejkjhdlgaa.Reader
set_option linter.unusedVariables false
set_option linter.unusedSimpArgs false
theorem long_at (p : Bool) (xs : List S35) (ys : List S37) : tincturelaw7_long.f p xs ys = some (decide (xs.length > 40 ∨ ys.length > 40)) := by
  unfold tincturelaw7_long.f
  by_cases h : xs.length > 40
  · rw [if_pos (by omega)]; simp [h]
  · rw [if_neg (by omega)]; congr 1; congr 1; rw [eq_iff_iff]; omega
theorem get_f (l : List Int) (h : Bytes l) : policy_Get.f l = some (getP l) := by rw [policy_Get.f, if_pos h]
theorem back (p : Bool) (xs : List S35) (ys : List S37) (q : Bool) (us : List S35) (vs : List S37) (cut : Int) (hw1 : Wf xs ys) (hw2 : Wf us vs) :
    tincturelaw7_PolicyBack.f 1000 p xs ys q us vs cut = some true := by
  rw [tincturelaw7_PolicyBack.f, tincturelaw7_awake.f]
  simp only [Option.bind_some, if_true]
  rw [long_at, Option.bind_some]
  by_cases h1 : xs.length > 40 ∨ ys.length > 40
  · rw [if_pos (by simp [h1])]; simp only [tincturelaw7_PolicyBack.j0, if_true]
  rw [if_neg (by simp [h1]), long_at, Option.bind_some]
  by_cases h2 : us.length > 40 ∨ vs.length > 40
  · simp only [tincturelaw7_PolicyBack.j0]; rw [if_pos (by simp [h2])]
  have h1' : xs.length ≤ 40 ∧ ys.length ≤ 40 := by omega
  have h2' : us.length ≤ 40 ∧ vs.length ≤ 40 := by omega
  obtain ⟨hx, hy⟩ := h1'; obtain ⟨hu, hv⟩ := h2'
  simp only [tincturelaw7_PolicyBack.j0]
  rw [if_neg (by simp [h2]), put_at _ _ _ _ hx hy (by omega), Option.bind_some, put_at _ _ _ _ hu hv (by omega), Option.bind_some]
  by_cases g1 : goodB xs ys = true
  · rw [if_pos g1]
    by_cases g2 : goodB us vs = true
    · rw [if_pos g2]
      simp only [tincturelaw7_PolicyBack.j1, if_true]
      have b1 := putP_bytes (p := p) g1 hw1
      have b2 := putP_bytes (p := q) g2 hw2
      rw [if_neg (by simp), get_f _ b1, get_put g1 hw1]
      simp only [Option.bind_some, if_true]
      rw [pol_at _ _ _ _ (by omega) (by omega) (by omega)]
      simp only [Option.bind_some]
      obtain ⟨c, hc, hc2⟩ := same_at 998 p p (xs.map cS) (xs.map cS) (ys.map cK) (ys.map cK) (by simp; omega) (by simp; omega) (by simp; omega)
      rw [hc, Option.bind_some, if_pos (hc2.2 ⟨rfl, rfl, rfl⟩), pol_at _ _ _ _ (by omega) (by omega) (by omega)]
      simp only [Option.bind_some]
      obtain ⟨d, hd, hd2⟩ := same_at 998 p q (xs.map cS) (us.map cS) (ys.map cK) (vs.map cK) (by simp; omega) (by simp; omega) (by simp; omega)
      rw [hd, Option.bind_some]
      have e : ((strOfNums (putP p xs ys)).toList == (strOfNums (putP q us vs)).toList) = d := by
        rw [Bool.eq_iff_iff, str_eq b1 b2, hd2]
        constructor
        · intro h
          have e1 := get_put (p := p) g1 hw1
          rw [h, get_put g2 hw2] at e1
          simp only [Prod.mk.injEq] at e1
          obtain ⟨rfl, rfl, rfl, _⟩ := e1
          exact ⟨rfl, rfl, rfl⟩
        · rintro ⟨rfl, h3, h4⟩
          rw [cS_inj h3, cK_inj h4]
      rw [e]
      simp only [tincturelaw7_PolicyBack.j2]
      rw [if_neg (by simp)]
      by_cases k1 : cut < 0
      · rw [if_pos k1]
      rw [if_neg k1]
      by_cases k2 : cut ≥ ((putP p xs ys).length : Int)
      · rw [if_pos k2]
      rw [if_neg k2, if_pos (by omega), if_pos (by omega), get_f _ (fun x hx => b1 x (List.mem_of_mem_take hx)), get_cut g1 hw1 _ (by omega)]
      rfl
    · rw [if_neg g2]
      simp only [tincturelaw7_PolicyBack.j1, if_true]
      rw [if_pos (by simp)]
  · rw [if_neg g1]
    simp only [tincturelaw7_PolicyBack.j1]
    rw [if_neg (by simp)]; simp
theorem wfu32 {x : Int} (h : wf33 x) : 0 ≤ x ∧ x ≤ 4294967295 := by
  have h' : IntKind.u32.min ≤ x ∧ x ≤ IntKind.u32.max := by simpa [wf33, Lit.wf] using h
  rw [show IntKind.u32.min = 0 from rfl, show IntKind.u32.max = 4294967295 from rfl] at h'; exact h'
theorem wfu8 {x : Int} (h : wf5 x) : 0 ≤ x ∧ x ≤ 255 := by
  have h' : IntKind.u8.min ≤ x ∧ x ≤ IntKind.u8.max := by simpa [wf5, Lit.wf] using h
  rw [show IntKind.u8.min = 0 from rfl, show IntKind.u8.max = 255 from rfl] at h'; exact h'
theorem wf_of {x : (Bool × List (S35) × List (S37))} (h : wf26 x) : Wf x.2.1 x.2.2 := by
  obtain ⟨_, ⟨_, h1⟩, ⟨_, h2⟩⟩ := h
  refine ⟨fun s hs => ?_, fun s hs => ?_⟩
  · obtain ⟨_, a, b, c⟩ := h1 s hs
    have a := wfu32 a; have b := wfu32 b; have c := wfu8 c
    omega
  · obtain ⟨_, _, c⟩ := h2 s hs
    exact wfu8 c
theorem walk (W : World) (x0 : (Bool × List (S35) × List (S37))) (wx0 : wf26 x0) (A0_1 : Option Addr) (c0_1 : Nat) (l0_0 : x0.2.1.length ≤ c0_1) (r0_0 : Kd.C k35 W A0_1 x0.2.1.length x0.2.1) (A0_2 : Option Addr) (c0_2 : Nat) (l0_1 : x0.2.2.length ≤ c0_2) (r0_1 : Kd.C k37 W A0_2 x0.2.2.length x0.2.2) (x1 : (Bool × List (S35) × List (S37))) (wx1 : wf26 x1) (A1_1 : Option Addr) (c1_1 : Nat) (l1_0 : x1.2.1.length ≤ c1_1) (r1_0 : Kd.C k35 W A1_1 x1.2.1.length x1.2.1) (A1_2 : Option Addr) (c1_2 : Nat) (l1_1 : x1.2.2.length ≤ c1_2) (r1_1 : Kd.C k37 W A1_2 x1.2.2.length x1.2.2) (x2 : Int) (wx2 : (Lit.int .i64 x2).wf = true) :
    Calls Try.prog 6 #[.agg #[.bool x0.1, .slice A0_1 x0.2.1.length c0_1, .slice A0_2 x0.2.2.length c0_2], .agg #[.bool x1.1, .slice A1_1 x1.2.1.length c1_1, .slice A1_2 x1.2.2.length c1_2], .int .i64 x2] W fun e w' => e = .returned (.bool true) ∧ Below W.heap.size W w' :=
  tincturelaw7_PolicyBack.calls 1000 x0.1 A0_1 c0_1 x0.2.1 A0_2 c0_2 x0.2.2 x1.1 A1_1 c1_1 x1.2.1 A1_2 c1_2 x1.2.2 x2 true W r0_0 l0_0 r0_1 l0_1 r1_0 l1_0 r1_1 l1_1 (back _ _ _ _ _ _ _ (wf_of wx0) (wf_of wx1))
end Go.Proofs.Ytlhoaejkjhdlgaa.PolicyBack
