/- The eldest goes: what a Put of one more key leaves, when keys come in order. -/
import Derived.Test.YtnmfmcjgjjanfaaAwake
namespace Go.Proofs.Ytnmfmcjgjjanfaa.Cache
open Go Go.RowKit Go.Proofs.YtnmfmcjgjjanfaaW.PrintWords Go.Proofs.YtnmfmcjgjjanfaaW.PrintLast Go.Proofs.YtnmfmcjgjjanfaaW.PrintMore Go.Proofs.Ytnmfmcjgjjanfaa.Pr Go.Proofs.Ytnmfmcjgjjanfaa.Lits
set_option linter.unusedVariables false
set_option linter.unusedSimpArgs false
def en (j : Nat) : En := ((4 * (j : Int), 0), 1, [])
/-- The keys from s on, n of them. -/
def E (s n : Nat) : List En := (List.range' s n).map en
theorem E_len (s n : Nat) : (E s n).length = n := by simp [E]
theorem E_at (s n q : Nat) (x : En) (h : (E s n)[q]? = some x) : q < n ∧ x = en (s + q) := by
  have hl : q < n := by have := (List.getElem?_eq_some_iff.1 h).1; rwa [E_len] at this
  unfold E at h
  rw [List.getElem?_map, List.getElem?_range' hl] at h
  simp at h
  exact ⟨hl, h.symm⟩
theorem E_idx (s n j : Nat) : (∃ q, idx (E s n) (4 * (j : Int), 0) = some q ∧ (E s n)[q]? = some (en j) ∧ s ≤ j ∧ j < s + n) ∨ (idx (E s n) (4 * (j : Int), 0) = none ∧ ¬ (s ≤ j ∧ j < s + n)) := by
  cases hi : idx (E s n) (4 * (j : Int), 0) with
  | none =>
    refine .inr ⟨rfl, fun hj => ?_⟩
    have hm : en j ∈ E s n := List.mem_map.2 ⟨j, by rw [List.mem_range'_1]; omega, rfl⟩
    have := List.findIdx?_eq_none_iff.1 hi (4 * (j : Int), 0) (List.mem_map.2 ⟨en j, hm, rfl⟩)
    rw [(kB_iff _ _).2 rfl] at this
    exact absurd this (by decide)
  | some q =>
    have hl := idx_lt hi
    have hg : (E s n)[q]? = some ((E s n)[q]) := List.getElem?_eq_getElem hl
    obtain ⟨h1, h2⟩ := E_at s n q _ hg
    obtain ⟨h3, h4, _⟩ := List.findIdx?_eq_some_iff_getElem.1 hi
    have h5 : (keysOf (E s n))[q] = (E s n)[q].1 := by simp [keysOf]
    rw [h5, h2] at h4
    have h6 := (kB_iff _ _).1 h4
    have h7 : (4 * ((s + q : Nat) : Int)) = 4 * (j : Int) := congrArg Prod.fst h6
    have h8 : s + q = j := by omega
    exact .inl ⟨q, rfl, by rw [hg, h2, h8], by omega, by omega⟩
theorem E_put (M s n : Nat) : putL M (E s n) (4 * ((s + n : Nat) : Int), 0) 1 [] = if M < n + 1 then E (s + 1) n else E s (n + 1) := by
  have h : idx (E s n) (4 * ((s + n : Nat) : Int), 0) = none := by
    rcases E_idx s n (s + n) with ⟨q, _, _, h1, h2⟩ | ⟨h, _⟩
    · omega
    · exact h
  have hd : del (E s n) (4 * ((s + n : Nat) : Int), 0) = E s n := by unfold del; rw [h]
  have hg : grown (E s n) (4 * ((s + n : Nat) : Int), 0) 1 [] = E s (n + 1) := by
    unfold grown
    rw [hd]
    unfold E
    rw [List.range'_concat, List.map_append]
    simp [en]
  unfold putL
  rw [hg, E_len]
  by_cases hm : M < n + 1
  · rw [if_pos hm, if_pos (by omega)]
    unfold E
    rw [List.range'_succ]
    rfl
  · rw [if_neg hm, if_neg (by omega)]
/-- The keys behind i Puts. -/
def L (M i : Nat) : List En := E (i - M) (i - (i - M))
theorem L_put (M i : Nat) (hM : 1 ≤ M) : putL M (L M i) (4 * (i : Int), 0) 1 [] = L M (i + 1) := by
  unfold L
  have h : i = (i - M) + (i - (i - M)) := by omega
  have := E_put M (i - M) (i - (i - M))
  rw [← h] at this
  rw [this]
  by_cases hm : M < i - (i - M) + 1
  · rw [if_pos hm]
    rw [show i + 1 - M = i - M + 1 by omega, show i + 1 - (i - M + 1) = i - (i - M) by omega]
  · rw [if_neg hm]
    rw [show i + 1 - M = i - M by omega, show i + 1 - (i - M) = i - (i - M) + 1 by omega]
theorem L_len (M i : Nat) : (L M i).length ≤ M := by unfold L; rw [E_len]; omega
theorem L_zero (M : Nat) : L M 0 = [] := by
  unfold L
  rw [show (0 : Nat) - (0 - M) = 0 by omega]
  rfl
section
variable {P : Nat → Prop} {w : World} {b : Nat} {most d h m : Int}
/-- A Get of a key from among them. -/
theorem get_L (M i j : Nat) (hM : M ≤ 20) (hh : Has P b most d (L M i) h m w) (hu : Up P w) (hh0 : 0 ≤ h) (hh1 : h ≤ 1000000) (hm0 : 0 ≤ m) (hm1 : m ≤ 1000000) (hj : j < i) :
    Calls Try.prog 11 #[.pointer (some ⟨b, 0, none⟩), .int .u32 (4 * (j : Int)), .int .i64 0, .int .u32 1] w fun e w' => ∃ A n c h' m', e = .returned (.tuple #[.slice A n c, .bool (decide (i - M ≤ j))]) ∧ Has P b most 1 (L M i) h' m' w' ∧ Mod P w w' ∧ 0 ≤ h' ∧ h' ≤ h + 1 ∧ 0 ≤ m' ∧ m' ≤ m + 1 := by
  have hl : (E (i - M) (i - (i - M))).length ≤ 1000 := by rw [E_len]; omega
  rcases E_idx (i - M) (i - (i - M)) j with ⟨q, h1, h2, h3, h4⟩ | ⟨h1, h2⟩
  · have hd : decide (i - M ≤ j) = true := decide_eq_true h3
    rw [hd]
    refine (get_hit_has (4 * (j : Int), 0) 1 q (4 * (j : Int), 0) [] h1 h2 (by simp) hh hu (by omega) hh0 hh1 hm0 hm1).mono ?_
    rintro e w' ⟨v, s, rfl, _, _, hv, p1, p2⟩
    obtain ⟨A, c, rfl, _⟩ := Kd.R_reads hv
    exact ⟨_, _, _, _, _, rfl, p1.mono (fun x hx => hx.1), p2, by omega, by omega, by omega, by omega⟩
  · have hd : decide (i - M ≤ j) = false := decide_eq_false (by omega)
    rw [hd]
    refine (get_no_has (4 * (j : Int), 0) 1 h1 hh hu (by omega) hh0 hh1 hm0 hm1).mono ?_
    rintro e w' ⟨rfl, p1, p2⟩
    exact ⟨_, _, _, _, _, rfl, p1, p2, by omega, by omega, by omega, by omega⟩
theorem put_L (M i : Nat) (hM1 : 1 ≤ M) (hM : M ≤ 20) (hh : Has P b M d (L M i) h m w) (hu : Up P w) :
    Calls Try.prog 10 #[.pointer (some ⟨b, 0, none⟩), .int .u32 (4 * (i : Int)), .int .i64 0, .int .u32 1, .slice none 0 0] w fun e w' => e = .returned (.tuple #[]) ∧ Has P b M 1 (L M (i + 1)) h m w' ∧ Mod P w w' := by
  have hl := L_len M i
  have := put_has (4 * (i : Int), 0) 1 none 0 [] hh hu (by omega) (fun w' _ => ⟨rfl, by simp, fun h => by simp at h⟩) (by simp) (by simp) (fun _ => rfl)
  rw [L_put M i hM1] at this
  exact this
end
end Go.Proofs.Ytnmfmcjgjjanfaa.Cache
