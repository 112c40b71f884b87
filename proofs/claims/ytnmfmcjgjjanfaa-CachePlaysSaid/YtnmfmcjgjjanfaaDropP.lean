/- What Drop leaves, plainly. -/
import Derived.Test.YtnmfmcjgjjanfaaDrop
namespace Go.Proofs.Ytnmfmcjgjjanfaa.Cache
open Go Go.RowKit Go.Proofs.Ytnmfmcjgjjanfaa.Pr
set_option linter.unusedVariables false
set_option linter.unusedSimpArgs false
theorem eraseIdx_filter {α : Type} (p : α → Bool) : ∀ (l : List α) (j : Nat) (h : j < l.length), p l[j] = false → (∀ (i : Nat) (hi : i < l.length), i ≠ j → p l[i] = true) → l.eraseIdx j = l.filter p
  | [], _, h, _, _ => by simp at h
  | a :: r, 0, h, h1, h2 => by
    have ha : p a = false := h1
    rw [List.eraseIdx_cons_zero, List.filter_cons_of_neg (by rw [ha]; decide)]
    refine (List.filter_eq_self.2 (fun x hx => ?_)).symm
    obtain ⟨i, hi, rfl⟩ := List.getElem_of_mem hx
    exact h2 (i + 1) (by simp; omega) (by omega)
  | a :: r, j + 1, h, h1, h2 => by
    have ha : p a = true := h2 0 (by simp) (by omega)
    rw [List.eraseIdx_cons_succ, List.filter_cons_of_pos ha, eraseIdx_filter p r j (by simpa using h) h1 (fun i hi hij => h2 (i + 1) (by simp; omega) (by omega))]
theorem del_filter (ms : List En) (k : K) (hone : One ms) : del ms k = ms.filter (fun e => !kB e.1 k) := by
  unfold del
  cases hi : idx ms k with
  | none =>
    refine (List.filter_eq_self.2 (fun x hx => ?_)).symm
    have := List.findIdx?_eq_none_iff.1 hi x.1 (List.mem_map.2 ⟨x, hx, rfl⟩)
    simpa using this
  | some j =>
    have hl := idx_lt hi
    obtain ⟨h1, h2, h3⟩ := List.findIdx?_eq_some_iff_getElem.1 hi
    have hg : ∀ (i : Nat) (hi : i < ms.length), (keysOf ms)[i]'(by simpa [keysOf] using hi) = ms[i].1 := fun i hi => by simp [keysOf]
    refine eraseIdx_filter _ ms j hl ?_ (fun i hi' hij => ?_)
    · rw [hg j hl] at h2; simp [h2]
    · rcases Nat.lt_or_gt_of_ne hij with h | h
      · have := h3 i h
        rw [hg i hi'] at this; simpa using this
      · have := hone.behind hi i (ms[i].1) h (by rw [List.getElem?_eq_getElem (by simpa [keysOf] using hi'), hg i hi'])
        simp [this]
theorem dropped_filter (pg : K → Bool) : ∀ (ss : List K) (ms : List En), One ms → dropped pg ms ss = ms.filter (fun e => ss.all (fun k => !(pg k && kB e.1 k)))
  | [], ms, _ => by
    simp only [dropped, List.foldl_nil, List.all_nil]
    exact (List.filter_eq_self.2 (fun _ _ => rfl)).symm
  | k :: r, ms, h => by
    have e : dropped pg ms (k :: r) = dropped pg (if pg k then del ms k else ms) r := rfl
    rw [e]
    by_cases hp : pg k = true
    · rw [if_pos hp, dropped_filter pg r _ (h.del k), del_filter ms k h, List.filter_filter]
      congr 1
      funext x
      simp [hp, Bool.and_comm]
    · rw [if_neg hp, dropped_filter pg r ms h]
      congr 1
      funext x
      simp [hp]
theorem dropped_eq (pg : K → Bool) (ss : List K) (ms : List En) (h : One ms) (hp : ss.Perm (keysOf ms)) : dropped pg ms ss = ms.filter (fun e => !pg e.1) := by
  rw [dropped_filter pg ss ms h]
  refine List.filter_congr (fun e he => ?_)
  have hm : e.1 ∈ ss := hp.mem_iff.2 (List.mem_map.2 ⟨e, he, rfl⟩)
  rw [Bool.eq_iff_iff, List.all_eq_true]
  constructor
  · intro hall
    have := hall e.1 hm
    rw [(kB_iff _ _).2 rfl] at this
    simpa using this
  · intro hn k _
    by_cases hk : kB e.1 k = true
    · rw [← (kB_iff _ _).1 hk]
      have : pg e.1 = false := by simpa using hn
      simp [this]
    · simp [hk]
theorem drop_has {P : Nat → Prop} {w : World} {ms : List En} {b : Nat} {most d h m : Int} (pc : Int) (hh : Has P b most d ms h m w) (hu : Up P w) (hn : ms.length ≤ 1000) :
    Calls Try.prog 16 #[.pointer (some ⟨b, 0, none⟩), .int .u32 pc] w fun e w' => e = .returned (.int .i64 (ms.filter (fun e => pg pc e.1)).length) ∧ Has P b most 1 (ms.filter (fun e => !pg pc e.1)) h m w' ∧ Mod P w w' := by
  obtain ⟨F, h1, h2⟩ := hh
  refine (drop_any pc h2 hn (fun x hx => (h1 x hx).2)).mono ?_
  rintro e w' ⟨ss, hp, rfl, p1, p2⟩
  have hP : ∀ x, F x ∨ w.heap.size ≤ x → P x := fun x hx => hx.elim (fun h => (h1 x h).1) (hu x)
  refine ⟨?_, ?_, p2.mono hP⟩
  · have := (hp.filter (pg pc)).length_eq
    rw [this]
    simp [keysOf, List.filter_map, Function.comp_def]
  · rw [← dropped_eq (pg pc) ss ms h2.one hp]
    exact p1.mono hP
end Go.Proofs.Ytnmfmcjgjjanfaa.Cache
