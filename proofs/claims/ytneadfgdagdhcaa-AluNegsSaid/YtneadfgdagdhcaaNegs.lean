/-
The walk of AluNegs, and that its answer is true: a number and its negative come to nought; signs turn quotients, never rests away from the number's sign. For all numbers of 32 bits.
-/
import Derived.Test.YtneadfgdagdhcaaAlu
namespace Go.Proofs.Ytneadfgdagdhcaa.Negs
open Go Go.RowKit Go.Proofs.Ytneadfgdagdhcaa.PAluDivides Go.Proofs.YtneadfgdagdhcaaW.PrintWords Go.Proofs.YtneadfgdagdhcaaW.PrintLast Go.Proofs.YtneadfgdagdhcaaW.PrintMore
set_option linter.unusedSimpArgs false
set_option linter.unusedVariables false
open Go.Proofs.Ytneadfgdagdhcaa.Alu
set_option maxRecDepth 100000 in
theorem negs_early (a b n : Int) (w : World) (h1 : Aside0 (tincturelaw1_do.f 1 0 a = some n)) (h2 : Aside0 (tincturelaw1_do.f 0 a n = some 0))
    (hb : (b == 0) = true ∨ ((b == 0) = false ∧ (a == 2147483648) = true) ∨ ((b == 0) = false ∧ (a == 2147483648) = false ∧ (b == 2147483648) = true)) :
    Calls Try.prog 8 #[.int .u32 a, .int .u32 b] w fun e w' => e = .returned (.bool true) ∧ Drawn0 w w' := by
  rcases hb with hb | ⟨hb, hc⟩ | ⟨hb, hc, hd⟩
  · go_enter Try.func8, Try.ntmps8
    go_wp2_with fail
    refine (tincturelaw1_awake.calls true _ awake_at).mono ?_
    rintro e w' ⟨rfl, ⟨nd, rfl⟩⟩
    go_wp2_with fail
    refine (tincturelaw1_do.calls _ _ _ _ _ h1.out).mono ?_
    rintro e w' ⟨rfl, ⟨nd, rfl⟩⟩
    go_wp2_with fail
    refine (tincturelaw1_do.calls _ _ _ _ _ h2.out).mono ?_
    rintro e w' ⟨rfl, ⟨nd, rfl⟩⟩
    go_wp2_with fail
    go_ret
    exact ⟨rfl, ⟨⟨_, rfl⟩⟩⟩
  · go_enter Try.func8, Try.ntmps8
    go_wp2_with fail
    refine (tincturelaw1_awake.calls true _ awake_at).mono ?_
    rintro e w' ⟨rfl, ⟨nd, rfl⟩⟩
    go_wp2_with fail
    refine (tincturelaw1_do.calls _ _ _ _ _ h1.out).mono ?_
    rintro e w' ⟨rfl, ⟨nd, rfl⟩⟩
    go_wp2_with fail
    refine (tincturelaw1_do.calls _ _ _ _ _ h2.out).mono ?_
    rintro e w' ⟨rfl, ⟨nd, rfl⟩⟩
    go_wp2_with fail
    go_ret
    exact ⟨rfl, ⟨⟨_, rfl⟩⟩⟩
  · go_enter Try.func8, Try.ntmps8
    go_wp2_with fail
    refine (tincturelaw1_awake.calls true _ awake_at).mono ?_
    rintro e w' ⟨rfl, ⟨nd, rfl⟩⟩
    go_wp2_with fail
    refine (tincturelaw1_do.calls _ _ _ _ _ h1.out).mono ?_
    rintro e w' ⟨rfl, ⟨nd, rfl⟩⟩
    go_wp2_with fail
    refine (tincturelaw1_do.calls _ _ _ _ _ h2.out).mono ?_
    rintro e w' ⟨rfl, ⟨nd, rfl⟩⟩
    go_wp2_with fail
    go_ret
    exact ⟨rfl, ⟨⟨_, rfl⟩⟩⟩
set_option maxRecDepth 100000 in
theorem negs_run (a b n m q q' r r' : Int) (w : World) (h1 : Aside0 (tincturelaw1_do.f 1 0 a = some n)) (h2 : Aside0 (tincturelaw1_do.f 0 a n = some 0))
    (h3 : Aside0 (tincturelaw1_do.f 1 0 b = some m)) (h4 : Aside0 (tincturelaw1_do.f 14 n b = some q')) (h5 : Aside0 (tincturelaw1_do.f 14 a b = some q)) (h6 : Aside0 (tincturelaw1_do.f 1 0 q = some q'))
    (h7 : Aside0 (tincturelaw1_do.f 14 a m = some q')) (h8 : Aside0 (tincturelaw1_do.f 16 a m = some r)) (h9 : Aside0 (tincturelaw1_do.f 16 a b = some r)) (h10 : Aside0 (tincturelaw1_do.f 16 n b = some r')) (h11 : Aside0 (tincturelaw1_do.f 1 0 r = some r'))
    (hb : (b == 0) = false) (hc : (a == 2147483648) = false) (hd : (b == 2147483648) = false) :
    Calls Try.prog 8 #[.int .u32 a, .int .u32 b] w fun e w' => e = .returned (.bool true) ∧ Drawn0 w w' := by
  go_enter Try.func8, Try.ntmps8
  go_wp2_with fail
  refine (tincturelaw1_awake.calls true _ awake_at).mono ?_
  rintro e w' ⟨rfl, ⟨nd, rfl⟩⟩
  go_wp2_with fail
  refine (tincturelaw1_do.calls _ _ _ _ _ h1.out).mono ?_
  rintro e w' ⟨rfl, ⟨nd, rfl⟩⟩
  go_wp2_with fail
  refine (tincturelaw1_do.calls _ _ _ _ _ h2.out).mono ?_
  rintro e w' ⟨rfl, ⟨nd, rfl⟩⟩
  go_wp2_with fail
  refine (tincturelaw1_do.calls _ _ _ _ _ h3.out).mono ?_
  rintro e w' ⟨rfl, ⟨nd, rfl⟩⟩
  go_wp2_with fail
  refine (tincturelaw1_do.calls _ _ _ _ _ h4.out).mono ?_
  rintro e w' ⟨rfl, ⟨nd, rfl⟩⟩
  go_wp2_with fail
  refine (tincturelaw1_do.calls _ _ _ _ _ h5.out).mono ?_
  rintro e w' ⟨rfl, ⟨nd, rfl⟩⟩
  go_wp2_with fail
  refine (tincturelaw1_do.calls _ _ _ _ _ h6.out).mono ?_
  rintro e w' ⟨rfl, ⟨nd, rfl⟩⟩
  go_wp2_with fail
  refine (tincturelaw1_do.calls _ _ _ _ _ h7.out).mono ?_
  rintro e w' ⟨rfl, ⟨nd, rfl⟩⟩
  go_wp2_with fail
  refine (tincturelaw1_do.calls _ _ _ _ _ h5.out).mono ?_
  rintro e w' ⟨rfl, ⟨nd, rfl⟩⟩
  go_wp2_with fail
  refine (tincturelaw1_do.calls _ _ _ _ _ h6.out).mono ?_
  rintro e w' ⟨rfl, ⟨nd, rfl⟩⟩
  go_wp2_with fail
  refine (tincturelaw1_do.calls _ _ _ _ _ h8.out).mono ?_
  rintro e w' ⟨rfl, ⟨nd, rfl⟩⟩
  go_wp2_with fail
  refine (tincturelaw1_do.calls _ _ _ _ _ h9.out).mono ?_
  rintro e w' ⟨rfl, ⟨nd, rfl⟩⟩
  go_wp2_with fail
  refine (tincturelaw1_do.calls _ _ _ _ _ h10.out).mono ?_
  rintro e w' ⟨rfl, ⟨nd, rfl⟩⟩
  go_wp2_with fail
  refine (tincturelaw1_do.calls _ _ _ _ _ h9.out).mono ?_
  rintro e w' ⟨rfl, ⟨nd, rfl⟩⟩
  go_wp2_with fail
  refine (tincturelaw1_do.calls _ _ _ _ _ h11.out).mono ?_
  rintro e w' ⟨rfl, ⟨nd, rfl⟩⟩
  go_wp2_with fail
  go_ret
  exact ⟨rfl, ⟨⟨_, rfl⟩⟩⟩
theorem wrap32_neg {a : Int} (ha : 0 ≤ a ∧ a < 4294967296) (h : a ≠ 2147483648) : wrap32 ((0 - a) % 4294967296) = -wrap32 a := by unfold wrap32; omega
theorem negs_walk (a b : Int) (w : World) (wa : (Lit.int .u32 a).wf = true) (wb : (Lit.int .u32 b).wf = true) :
    Calls Try.prog 8 #[.int .u32 a, .int .u32 b] w fun e w' => e = .returned (.bool true) ∧ Below w.heap.size w w' := by
  have ha := wf32 wa
  have hb := wf32 wb
  have z : tincturelaw1_do.f 0 a ((0 - a) % 4294967296) = some 0 := by rw [do0]; congr 1; omega
  by_cases he : b = 0 ∨ a = 2147483648 ∨ b = 2147483648
  · refine (negs_early a b _ w (Aside0.mk (do1 _ _)) (Aside0.mk z) ?_).mono ?_
    · simp only [beq_iff_eq, beq_eq_false_iff_ne]; omega
    · rintro e w' ⟨rfl, hd⟩
      exact ⟨rfl, hd.below⟩
  · have b0 : b ≠ 0 := fun h => he (.inl h)
    have a1 : a ≠ 2147483648 := fun h => he (.inr (.inl h))
    have b1 : b ≠ 2147483648 := fun h => he (.inr (.inr h))
    have na := wrap32_neg ha a1
    have nb := wrap32_neg hb b1
    have c1 : ¬ (a = 2147483648 ∧ b = 4294967295) := fun h => a1 h.1
    have c2 : ¬ ((0 - a) % 4294967296 = 2147483648 ∧ b = 4294967295) := fun h => by omega
    have c3 : ¬ (a = 2147483648 ∧ (0 - b) % 4294967296 = 4294967295) := fun h => a1 h.1
    have mb : ¬ (0 - b) % 4294967296 = 0 := by omega
    have m0 : 0 ≤ (0 - b) % 4294967296 := by omega
    have m1 : (0 - b) % 4294967296 < 4294967296 := by omega
    refine (negs_run a b _ _ (sdiv a b) ((0 - sdiv a b) % 4294967296) (srem a b) (srem ((0 - a) % 4294967296) b) w (Aside0.mk (do1 _ _)) (Aside0.mk z) (Aside0.mk (do1 _ _)) (Aside0.mk ?_) (Aside0.mk (do14 hb.1 hb.2)) (Aside0.mk (do1 _ _)) (Aside0.mk ?_) (Aside0.mk ?_) (Aside0.mk (do16 hb.1 hb.2)) (Aside0.mk (do16 hb.1 hb.2)) (Aside0.mk ?_) (by simpa using b0) (by simpa using a1) (by simpa using b1)).mono ?_
    · rw [do14 hb.1 hb.2]; congr 1
      unfold sdiv
      rw [if_neg b0, if_neg b0, if_neg c1, if_neg c2, na, Int.neg_tdiv]; omega
    · rw [do14 m0 m1]; congr 1
      unfold sdiv
      rw [if_neg b0, if_neg mb, if_neg c1, if_neg c3, nb, Int.tdiv_neg]; omega
    · rw [do16 m0 m1]; congr 1
      unfold srem
      rw [if_neg b0, if_neg mb, if_neg c1, if_neg c3, nb, Int.tmod_neg]
    · rw [do1]; congr 1
      unfold srem
      rw [if_neg b0, if_neg b0, if_neg c1, if_neg c2, na, Int.neg_tmod]; omega
    · rintro e w' ⟨rfl, hd⟩
      exact ⟨rfl, hd.below⟩
end Go.Proofs.Ytneadfgdagdhcaa.Negs
