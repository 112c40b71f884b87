/- A page's lists go all at once, plainly: what many Puts of one variant leave, how many of them a page bears, what a Get finds behind a Drop. -/
import Derived.Test.YtnmfmcjgjjanfaaDropP
import Derived.Test.YtnmfmcjgjjanfaaAwake
namespace Go.Proofs.Ytnmfmcjgjjanfaa.Cache
open Go Go.RowKit Go.Proofs.YtnmfmcjgjjanfaaW.PrintWords Go.Proofs.YtnmfmcjgjjanfaaW.PrintLast Go.Proofs.YtnmfmcjgjjanfaaW.PrintMore Go.Proofs.Ytnmfmcjgjjanfaa.Pr Go.Proofs.Ytnmfmcjgjjanfaa.Lits
set_option linter.unusedVariables false
set_option linter.unusedSimpArgs false
theorem perm_erase {α : Type} (a : α) : ∀ (l : List α) (j : Nat), l[j]? = some a → (a :: l.eraseIdx j).Perm l
  | [], j, h => by simp at h
  | b :: r, 0, h => by
    simp at h
    rw [h, List.eraseIdx_cons_zero]
  | b :: r, j + 1, h => by
    rw [List.eraseIdx_cons_succ]
    exact (List.Perm.swap b a _).trans ((perm_erase a r j (by simpa using h)).cons b)
def e1 (k : Int) : En := ((k, 0), 1, [])
structure Inv (ks : List Int) (ms : List En) : Prop where
  one : One ms
  le : ms.length ≤ ks.length
  all : ∀ k, k ∈ ks → e1 k ∈ ms
  come : ∀ e, e ∈ ms → ∃ k, k ∈ ks ∧ e = e1 k
theorem Inv.nil : Inv [] [] := ⟨by simp [One, keysOf], by simp, fun k h => by simp at h, fun e h => by simp at h⟩
theorem idx_none {ms : List En} {k : Int} (hc : ∀ e, e ∈ ms → ∃ j, e = e1 j) (h : e1 k ∉ ms) : idx ms (k, 0) = none := by
  unfold idx
  rw [List.findIdx?_eq_none_iff]
  intro x hx
  obtain ⟨e, he, rfl⟩ := List.mem_map.1 hx
  obtain ⟨j, rfl⟩ := hc e he
  rw [Bool.eq_false_iff]
  intro hb
  have h1 := (kB_iff _ _).1 hb
  have h2 : j = k := congrArg Prod.fst h1
  rw [h2] at he
  exact h he
theorem idx_some {ms : List En} {k : Int} (hc : ∀ e, e ∈ ms → ∃ j, e = e1 j) (h : e1 k ∈ ms) : ∃ j, idx ms (k, 0) = some j ∧ ms[j]? = some (e1 k) := by
  cases hi : idx ms (k, 0) with
  | none =>
    have := List.findIdx?_eq_none_iff.1 hi (k, 0) (List.mem_map.2 ⟨e1 k, h, rfl⟩)
    rw [(kB_iff _ _).2 rfl] at this
    exact absurd this (by decide)
  | some q =>
    have hl := idx_lt hi
    refine ⟨q, rfl, ?_⟩
    rw [List.getElem?_eq_getElem hl]
    obtain ⟨h3, h4, _⟩ := List.findIdx?_eq_some_iff_getElem.1 hi
    have h5 : (keysOf ms)[q] = (ms[q]).1 := by simp [keysOf]
    rw [h5] at h4
    obtain ⟨j, hj⟩ := hc _ (List.getElem_mem hl)
    rw [hj] at h4 ⊢
    have h6 := (kB_iff _ _).1 h4
    have h7 : j = k := congrArg Prod.fst h6
    rw [h7]
section
variable {ks : List Int} {ms : List En} {k : Int}
theorem Inv.js (h : Inv ks ms) : ∀ e, e ∈ ms → ∃ j, e = e1 j := fun e he => let ⟨j, _, hj⟩ := h.come e he; ⟨j, hj⟩
theorem Inv.putL_eq (h : Inv ks ms) (hk : ks.length ≤ 200) : putL 256 ms (k, 0) 1 [] = grown ms (k, 0) 1 [] := by
  have h1 := h.le
  have h2 : (del ms (k, 0)).length ≤ ms.length := by
    unfold del
    split
    · exact (List.eraseIdx_sublist _ _).length_le
    · exact Nat.le_refl _
  unfold putL
  rw [if_neg]
  unfold grown
  rw [List.length_append]
  simp
  omega
theorem Inv.again (h : Inv ks ms) (hk : k ∈ ks) : (grown ms (k, 0) 1 []).Perm ms := by
  obtain ⟨j, h1, h2⟩ := idx_some h.js (h.all k hk)
  have hl := idx_lt h1
  unfold grown del
  rw [h1]
  have h4 := perm_erase _ ms j h2
  exact (List.perm_append_singleton (e1 k) (ms.eraseIdx j)).trans h4
theorem Inv.first (h : Inv ks ms) (hk : k ∉ ks) : grown ms (k, 0) 1 [] = ms ++ [e1 k] := by
  have h1 : idx ms (k, 0) = none := idx_none h.js (fun he => by
    obtain ⟨j, hj, e⟩ := h.come _ he
    have : k = j := congrArg (fun x : En => x.1.1) e
    rw [← this] at hj
    exact hk hj)
  unfold grown del
  rw [h1]
  rfl
theorem Inv.put (h : Inv ks ms) (hk : ks.length ≤ 200) (k : Int) : Inv (ks ++ [k]) (putL 256 ms (k, 0) 1 []) := by
  rw [h.putL_eq hk]
  have h1 := h.le
  by_cases hm : k ∈ ks
  · have hp := h.again hm
    refine ⟨h.one.grown _ _ _, ?_, fun j hj => hp.mem_iff.2 ?_, fun e he => ?_⟩
    · rw [hp.length_eq, List.length_append]; omega
    · rcases List.mem_append.1 hj with hj | hj
      · exact h.all j hj
      · rw [List.mem_singleton.1 hj]; exact h.all k hm
    · obtain ⟨j, hj, e⟩ := h.come e (hp.mem_iff.1 he)
      exact ⟨j, List.mem_append.2 (.inl hj), e⟩
  · have hp := h.first hm
    refine ⟨h.one.grown _ _ _, ?_, fun j hj => ?_, fun e he => ?_⟩
    · rw [hp, List.length_append, List.length_append]; simpa using h1
    · rw [hp]
      rcases List.mem_append.1 hj with hj | hj
      · exact List.mem_append.2 (.inl (h.all j hj))
      · rw [List.mem_singleton.1 hj]; exact List.mem_append.2 (.inr (List.mem_singleton.2 rfl))
    · rw [hp] at he
      rcases List.mem_append.1 he with he | he
      · obtain ⟨j, hj, e⟩ := h.come e he
        exact ⟨j, List.mem_append.2 (.inl hj), e⟩
      · exact ⟨k, List.mem_append.2 (.inr (List.mem_singleton.2 rfl)), List.mem_singleton.1 he⟩
/-- How many of a page. -/
def cnt (pc : Int) (ms : List En) : Nat := (ms.filter (fun e => pg pc e.1)).length
def rest (pc : Int) (ms : List En) : List En := ms.filter (fun e => !pg pc e.1)
theorem cnt_again (h : Inv ks ms) (hk : ks.length ≤ 200) (hm : k ∈ ks) (pc : Int) : cnt pc (putL 256 ms (k, 0) 1 []) = cnt pc ms ∧ (putL 256 ms (k, 0) 1 []).length = ms.length := by
  rw [h.putL_eq hk]
  have hp := h.again hm
  exact ⟨(hp.filter _).length_eq, hp.length_eq⟩
theorem cnt_first (h : Inv ks ms) (hk : ks.length ≤ 200) (hm : k ∉ ks) (pc : Int) : cnt pc (putL 256 ms (k, 0) 1 []) = cnt pc ms + (if pg pc (k, 0) then 1 else 0) ∧ (putL 256 ms (k, 0) 1 []).length = ms.length + 1 := by
  rw [h.putL_eq hk, h.first hm]
  refine ⟨?_, by simp⟩
  unfold cnt
  rw [List.filter_append, List.length_append]
  congr 1
  by_cases hp : pg pc (k, 0) = true
  · rw [if_pos hp, List.filter_cons_of_pos (p := fun e : En => pg pc e.1) hp]; rfl
  · rw [if_neg hp, List.filter_cons_of_neg (p := fun e : En => pg pc e.1) hp]; rfl
theorem cnt_rest (pc : Int) : ∀ ms : List En, ms.length = cnt pc ms + (rest pc ms).length
  | [] => rfl
  | e :: r => by
    have := cnt_rest pc r
    unfold cnt rest at *
    by_cases hp : pg pc e.1 = true
    · rw [List.filter_cons_of_pos (p := fun e : En => pg pc e.1) hp, List.filter_cons_of_neg (p := fun e : En => !pg pc e.1) (by rw [hp]; decide), List.length_cons, List.length_cons]; omega
    · rw [List.filter_cons_of_neg (p := fun e : En => pg pc e.1) hp, List.filter_cons_of_pos (p := fun e : En => !pg pc e.1) (by simpa using hp), List.length_cons, List.length_cons]; omega
theorem cnt_le (pc : Int) (ms : List En) : cnt pc ms ≤ ms.length := List.length_filter_le _ _
theorem rest_le (pc : Int) (ms : List En) : (rest pc ms).length ≤ ms.length := List.length_filter_le _ _
theorem cnt_of_rest (pc : Int) (ms : List En) : cnt pc (rest pc ms) = 0 := by
  unfold cnt rest
  rw [List.filter_filter]
  have : ∀ x ∈ ms, ¬ ((pg pc x.1 && !pg pc x.1) = true) := by intro x _; cases pg pc x.1 <;> decide
  rw [List.filter_eq_nil_iff.2 this]
  rfl
theorem rest_rest (pc : Int) (ms : List En) : rest pc (rest pc ms) = rest pc ms := by
  unfold rest
  rw [List.filter_filter]
  refine List.filter_congr (fun x _ => ?_)
  cases pg pc x.1 <;> decide
end
section
variable {P : Nat → Prop} {w : World} {b : Nat} {d h m : Int} {ks : List Int} {ms : List En}
theorem put_D (k : Int) (hi : Inv ks ms) (hk : ks.length ≤ 200) (hh : Has P b 256 d ms h m w) (hu : Up P w) :
    Calls Try.prog 10 #[.pointer (some ⟨b, 0, none⟩), .int .u32 k, .int .i64 0, .int .u32 1, .slice none 0 0] w fun e w' => e = .returned (.tuple #[]) ∧ Has P b 256 1 (putL 256 ms (k, 0) 1 []) h m w' ∧ Mod P w w' :=
  put_has (k, 0) 1 none 0 [] hh hu (by have := hi.le; omega) (fun w' _ => ⟨rfl, by simp, fun h => by simp at h⟩) (by simp) (by simp)
theorem get_D (pc k : Int) (hi : Inv ks ms) (hk : ks.length ≤ 200) (hm : k ∈ ks) (hh : Has P b 256 d (rest pc ms) h m w) (hu : Up P w) (hh0 : 0 ≤ h) (hh1 : h ≤ 1000000) (hm0 : 0 ≤ m) (hm1 : m ≤ 1000000) :
    Calls Try.prog 11 #[.pointer (some ⟨b, 0, none⟩), .int .u32 k, .int .i64 0, .int .u32 1] w fun e w' => ∃ A n c h' m', e = .returned (.tuple #[.slice A n c, .bool (!pg pc (k, 0))]) ∧ Has P b 256 1 (rest pc ms) h' m' w' ∧ Mod P w w' ∧ 0 ≤ h' ∧ h' ≤ h + 1 ∧ 0 ≤ m' ∧ m' ≤ m + 1 := by
  have hl : (rest pc ms).length ≤ 1000 := by have := hi.le; have := rest_le pc ms; omega
  have hj : ∀ e, e ∈ rest pc ms → ∃ j, e = e1 j := fun e he => hi.js e (List.mem_filter.1 he).1
  by_cases hp : pg pc (k, 0) = true
  · have hn : e1 k ∉ rest pc ms := fun he => by
      have := (List.mem_filter.1 he).2
      have h2 : pg pc (e1 k).1 = true := hp
      rw [h2] at this
      exact absurd this (by decide)
    rw [hp]
    refine (get_no_has (k, 0) 1 (idx_none hj hn) hh hu hl hh0 hh1 hm0 hm1).mono ?_
    rintro e w' ⟨rfl, p1, p2⟩
    exact ⟨_, _, _, _, _, rfl, p1, p2, by omega, by omega, by omega, by omega⟩
  · have hp' : pg pc (k, 0) = false := by simpa using hp
    have hn : e1 k ∈ rest pc ms := List.mem_filter.2 ⟨hi.all k hm, by have h2 : pg pc (e1 k).1 = false := hp'; rw [h2]; rfl⟩
    obtain ⟨q, h1, h2⟩ := idx_some hj hn
    rw [hp']
    refine (get_hit_has (k, 0) 1 q (k, 0) [] h1 h2 (by simp) hh hu hl hh0 hh1 hm0 hm1).mono ?_
    rintro e w' ⟨v, s, rfl, _, _, hv, p1, p2⟩
    obtain ⟨A, c, rfl, _⟩ := Kd.R_reads hv
    exact ⟨_, _, _, _, _, rfl, p1.mono (fun x hx => hx.1), p2, by omega, by omega, by omega, by omega⟩
end
end Go.Proofs.Ytnmfmcjgjjanfaa.Cache
