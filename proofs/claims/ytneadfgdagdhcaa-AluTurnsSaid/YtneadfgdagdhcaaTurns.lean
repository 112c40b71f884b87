/-
The walk of AluTurns, and that its answer is true: what is added and taken away is the number again, exclusive or twice, too; and, or of itself is itself. For all numbers of 32 bits.
-/
import Derived.Test.YtneadfgdagdhcaaAlu
namespace Go.Proofs.Ytneadfgdagdhcaa.Turns
open Go Go.RowKit Go.Proofs.Ytneadfgdagdhcaa.PAluDivides Go.Proofs.YtneadfgdagdhcaaW.PrintWords Go.Proofs.YtneadfgdagdhcaaW.PrintLast Go.Proofs.YtneadfgdagdhcaaW.PrintMore
set_option linter.unusedSimpArgs false
set_option linter.unusedVariables false
open Go.Proofs.Ytneadfgdagdhcaa.Alu
theorem or_and_add (a : Nat) : ∀ b, (a ||| b) + (a &&& b) = a + b := by
  induction a using Nat.strongRecOn with
  | ind a ih =>
    intro b
    by_cases h : a = 0
    · subst h; simp
    · have i := ih (a / 2) (by omega) (b / 2)
      have d1 : (a ||| b) / 2 = a / 2 ||| b / 2 := Nat.or_div_two
      have d2 : (a &&& b) / 2 = a / 2 &&& b / 2 := Nat.and_div_two
      have m1 : (a ||| b) % 2 = a % 2 ||| b % 2 := by simpa using Nat.or_mod_two_pow (a := a) (b := b) (n := 1)
      have m2 : (a &&& b) % 2 = a % 2 &&& b % 2 := by simpa using Nat.and_mod_two_pow (a := a) (b := b) (n := 1)
      have c : (a % 2 ||| b % 2) + (a % 2 &&& b % 2) = a % 2 + b % 2 := by
        rcases Nat.mod_two_eq_zero_or_one a with e | e <;> rcases Nat.mod_two_eq_zero_or_one b with f | f <;> rw [e, f] <;> rfl
      omega
set_option maxRecDepth 100000 in
theorem turns_run (a b s x p o n : Int) (w : World) (h1 : Aside0 (tincturelaw1_do.f 0 a b = some s)) (h2 : Aside0 (tincturelaw1_do.f 1 s b = some a))
    (h3 : Aside0 (tincturelaw1_do.f 5 a b = some x)) (h4 : Aside0 (tincturelaw1_do.f 5 x b = some a)) (h5 : Aside0 (tincturelaw1_do.f 9 a a = some a)) (h6 : Aside0 (tincturelaw1_do.f 8 a a = some a))
    (h7 : Aside0 (tincturelaw1_do.f 1 a a = some 0)) (h8 : Aside0 (tincturelaw1_do.f 0 b a = some s)) (h9 : Aside0 (tincturelaw1_do.f 10 a b = some p)) (h10 : Aside0 (tincturelaw1_do.f 10 b a = some p))
    (h11 : Aside0 (tincturelaw1_do.f 8 a b = some o)) (h12 : Aside0 (tincturelaw1_do.f 9 a b = some n)) (h13 : Aside0 (tincturelaw1_do.f 0 o n = some s)) :
    Calls Try.prog 5 #[.int .u32 a, .int .u32 b] w fun e w' => e = .returned (.bool true) ∧ Drawn0 w w' := by
  go_enter Try.func5, Try.ntmps5
  go_wp2_with fail
  refine (tincturelaw1_awake.calls true _ awake_at).mono ?_
  rintro e w' ⟨rfl, ⟨nd, rfl⟩⟩
  go_wp2_with fail
  refine (tincturelaw1_do.calls _ _ _ _ _ h1.out).mono ?_
  rintro e w' ⟨rfl, ⟨nd, rfl⟩⟩
  go_wp2_with fail
  refine (tincturelaw1_do.calls _ _ _ _ _ h2.out).mono ?_
  rintro e w' ⟨rfl, ⟨nd, rfl⟩⟩
  go_wp2_with fail
  refine (tincturelaw1_do.calls _ _ _ _ _ h3.out).mono ?_
  rintro e w' ⟨rfl, ⟨nd, rfl⟩⟩
  go_wp2_with fail
  refine (tincturelaw1_do.calls _ _ _ _ _ h4.out).mono ?_
  rintro e w' ⟨rfl, ⟨nd, rfl⟩⟩
  go_wp2_with fail
  refine (tincturelaw1_do.calls _ _ _ _ _ h5.out).mono ?_
  rintro e w' ⟨rfl, ⟨nd, rfl⟩⟩
  go_wp2_with fail
  refine (tincturelaw1_do.calls _ _ _ _ _ h6.out).mono ?_
  rintro e w' ⟨rfl, ⟨nd, rfl⟩⟩
  go_wp2_with fail
  refine (tincturelaw1_do.calls _ _ _ _ _ h7.out).mono ?_
  rintro e w' ⟨rfl, ⟨nd, rfl⟩⟩
  go_wp2_with fail
  refine (tincturelaw1_do.calls _ _ _ _ _ h1.out).mono ?_
  rintro e w' ⟨rfl, ⟨nd, rfl⟩⟩
  go_wp2_with fail
  refine (tincturelaw1_do.calls _ _ _ _ _ h8.out).mono ?_
  rintro e w' ⟨rfl, ⟨nd, rfl⟩⟩
  go_wp2_with fail
  refine (tincturelaw1_do.calls _ _ _ _ _ h9.out).mono ?_
  rintro e w' ⟨rfl, ⟨nd, rfl⟩⟩
  go_wp2_with fail
  refine (tincturelaw1_do.calls _ _ _ _ _ h10.out).mono ?_
  rintro e w' ⟨rfl, ⟨nd, rfl⟩⟩
  go_wp2_with fail
  refine (tincturelaw1_do.calls _ _ _ _ _ h11.out).mono ?_
  rintro e w' ⟨rfl, ⟨nd, rfl⟩⟩
  go_wp2_with fail
  refine (tincturelaw1_do.calls _ _ _ _ _ h12.out).mono ?_
  rintro e w' ⟨rfl, ⟨nd, rfl⟩⟩
  go_wp2_with fail
  refine (tincturelaw1_do.calls _ _ _ _ _ h13.out).mono ?_
  rintro e w' ⟨rfl, ⟨nd, rfl⟩⟩
  go_wp2_with fail
  refine (tincturelaw1_do.calls _ _ _ _ _ h1.out).mono ?_
  rintro e w' ⟨rfl, ⟨nd, rfl⟩⟩
  go_wp2_with fail
  go_ret
  exact ⟨rfl, ⟨⟨_, rfl⟩⟩⟩
theorem turns_walk (a b : Int) (w : World) (wa : (Lit.int .u32 a).wf = true) (wb : (Lit.int .u32 b).wf = true) :
    Calls Try.prog 5 #[.int .u32 a, .int .u32 b] w fun e w' => e = .returned (.bool true) ∧ Below w.heap.size w w' := by
  obtain ⟨ha, ha'⟩ := wf32 wa
  obtain ⟨hb, hb'⟩ := wf32 wb
  obtain ⟨m, rfl⟩ := Int.eq_ofNat_of_zero_le ha
  obtain ⟨k, rfl⟩ := Int.eq_ofNat_of_zero_le hb
  have hm : m < 4294967296 := by omega
  have hk : k < 4294967296 := by omega
  have hx : m ^^^ k < 4294967296 := Nat.xor_lt_two_pow (n := 32) hm hk
  refine (turns_run (m : Int) k (((m : Int) + k) % 4294967296) ((m ^^^ k : Nat) : Int) (((m : Int) * k) % 4294967296) ((m ||| k : Nat) : Int) ((m &&& k : Nat) : Int) w
    (Aside0.mk (do0 _ _)) (Aside0.mk ?_) (Aside0.mk ?_) (Aside0.mk ?_) (Aside0.mk ?_) (Aside0.mk ?_) (Aside0.mk ?_) (Aside0.mk ?_) (Aside0.mk (do10 _ _)) (Aside0.mk ?_) (Aside0.mk ?_) (Aside0.mk ?_) (Aside0.mk ?_)).mono ?_
  · rw [do1]; congr 1; omega
  · rw [do5, u32_xor_nat m k hm hk]
  · rw [do5, u32_xor_nat _ k hx hk, Nat.xor_assoc, Nat.xor_self, Nat.xor_zero]
  · rw [do9, u32_and_nat m m hm hm, Nat.and_self]
  · rw [do8, u32_or_nat m m hm hm, Nat.or_self]
  · rw [do1]; congr 1; omega
  · rw [do0]; congr 1; omega
  · rw [do10, Int.mul_comm]
  · rw [do8, u32_or_nat m k hm hk]
  · rw [do9, u32_and_nat m k hm hk]
  · rw [do0]; congr 1
    have := or_and_add m k
    omega
  · rintro e w' ⟨rfl, hd⟩
    exact ⟨rfl, hd.below⟩
end Go.Proofs.Ytneadfgdagdhcaa.Turns
