/- The cache's state; slices.DeleteFunc over the order. -/
import Derived.Test.YtnmfmcjgjjanfaaMaps
namespace Go.Proofs.Ytnmfmcjgjjanfaa.Cache
open Go Go.RowKit Go.Proofs.YtnmfmcjgjjanfaaW.PrintWords Go.Proofs.YtnmfmcjgjjanfaaW.PrintLast Go.Proofs.YtnmfmcjgjjanfaaW.PrintMore Go.Proofs.Ytnmfmcjgjjanfaa.Pr
set_option linter.unusedVariables false
set_option linter.unusedSimpArgs false
def MapIs (F : Nat → Prop) (w : World) (mb : Nat) (ms : List En) : Prop := F mb ∧ ∃ es clock, w.heap[mb]? = some (.map es clock) ∧ Ents F w es ms ∧ Born es clock
def MapAt (F : Nat → Prop) (w : World) (d : Int) (mv : Value) (ms : List En) : Prop := (d = 0 ∧ mv = .map none ∧ ms = []) ∨ ∃ mb, d = 1 ∧ mv = .map (some mb) ∧ MapIs F w mb ms
def OrdAt (F : Nat → Prop) (w : World) (ov : Value) (ks : List K) : Prop :=
  (ov = .slice none 0 0 ∧ ks = []) ∨ ∃ g cap cur, ov = .slice (some ⟨g, 0, none⟩) ks.length cap ∧ F g ∧ w.heap[g]? = some (.cells cur 75 (0, 0)) ∧ cur.size = cap * 2 ∧ ks.length ≤ cap ∧ cap ≤ maxLen ∧ CurAt cur ks
def One (ms : List En) : Prop := (keysOf ms).Pairwise (fun a b => kB a b = false)
structure Holds (F : Nat → Prop) (b : Nat) (most d : Int) (ms : List En) (h m : Int) (w : World) : Prop where
  own : F b
  blk : ∃ mv ov, w.heap[b]? = some (cb most d mv ov h m) ∧ MapAt F w d mv ms ∧ OrdAt F w ov (keysOf ms)
  one : One ms
section
variable {F F' : Nat → Prop} {w w1 : World} {ms : List En} {b mb : Nat} {most d h m : Int} {ov mv : Value} {ks : List K}
theorem MapIs.step (hh : MapIs F w mb ms) (hm : ∀ k o, F k → w.heap[k]? = some o → ((∃ es c, o = .map es c) ∨ ∃ cells, o = .cells cells 25 (0, 0)) → w1.heap[k]? = w.heap[k]?) (hF : ∀ k, F k → k < w.heap.size → F' k) : MapIs F' w1 mb ms := by
  obtain ⟨h0, es, c, h1, h2, h3⟩ := hh
  exact ⟨hF mb h0 (blk_lt h1), es, c, (hm mb _ h0 h1 (.inl ⟨es, c, rfl⟩)).trans h1, h2.step (fun k cells hk hc => hm k _ hk hc (.inr ⟨cells, rfl⟩)) hF, h3⟩
theorem MapAt.step (hh : MapAt F w d mv ms) (hm : ∀ k o, F k → w.heap[k]? = some o → ((∃ es c, o = .map es c) ∨ ∃ cells, o = .cells cells 25 (0, 0)) → w1.heap[k]? = w.heap[k]?) (hF : ∀ k, F k → k < w.heap.size → F' k) : MapAt F' w1 d mv ms := by
  rcases hh with hh | ⟨mb, h1, h2, h3⟩
  · exact .inl hh
  · exact .inr ⟨mb, h1, h2, h3.step hm hF⟩
theorem OrdAt.step (hh : OrdAt F w ov ks) (hm : ∀ k cells, F k → w.heap[k]? = some (.cells cells 75 (0, 0)) → w1.heap[k]? = w.heap[k]?) (hF : ∀ k, F k → k < w.heap.size → F' k) : OrdAt F' w1 ov ks := by
  rcases hh with hh | ⟨g, cap, cur, h1, h2, h3, h4⟩
  · exact .inl hh
  · exact .inr ⟨g, cap, cur, h1, hF g h2 (blk_lt h3), (hm g cur h2 h3).trans h3, h4⟩
/-- Where the cache's own blocks stand as they were, it is as it was. -/
theorem Holds.step (hh : Holds F b most d ms h m w) (hm : ∀ k o, F k → w.heap[k]? = some o → w1.heap[k]? = w.heap[k]?) (hF : ∀ k, F k → k < w.heap.size → F' k) : Holds F' b most d ms h m w1 := by
  obtain ⟨mv, ov, h1, h2, h3⟩ := hh.blk
  exact ⟨hF b hh.own (blk_lt h1), ⟨mv, ov, (hm b _ hh.own h1).trans h1, h2.step (fun k o hk ho _ => hm k o hk ho) hF, h3.step (fun k cells hk hc => hm k _ hk hc) hF⟩, hh.one⟩
theorem Holds.below (hh : Holds F b most d ms h m w) (hb : Below w.heap.size w w1) : Holds F b most d ms h m w1 := hh.step (fun k o _ ho => hb.block k (blk_lt ho)) (fun _ hk _ => hk)
theorem Holds.mono (hh : Holds F b most d ms h m w) (hF : ∀ k, F k → k < w.heap.size → F' k) : Holds F' b most d ms h m w := hh.step (fun _ _ _ _ => rfl) hF
/-- A store into another block. -/
theorem Holds.mod {S : Nat → Prop} (hh : Holds F b most d ms h m w) (hb : Mod S w w1) (hs : ∀ k, F k → ¬ S k) : Holds F b most d ms h m w1 := hh.step (fun k o hk ho => hb.keep k (blk_lt ho) (hs k hk)) (fun _ hk _ => hk)
theorem eraseIdx_sub {α : Type} (l : List α) (j : Nat) : (l.eraseIdx j).Sublist l := List.eraseIdx_sublist l j
theorem keys_del (ms : List En) (k : K) : keysOf (del ms k) = (match idx ms k with | some j => (keysOf ms).eraseIdx j | none => keysOf ms) := by
  unfold del keysOf
  cases idx ms k with
  | none => rfl
  | some j => exact map_eraseIdx' _ _ _
theorem One.del (h : One ms) (k : K) : One (del ms k) := by
  unfold One at *
  rw [keys_del]
  cases idx ms k with
  | none => exact h
  | some j => exact h.sublist (List.eraseIdx_sublist _ _)
theorem idx_of (ms : List En) (k : K) : idxOf (keysOf ms) k = (match idx ms k with | some i => (i : Int) | none => -1) := rfl
/-- Behind the place of a key there is none like it. -/
theorem One.behind (h : One ms) {k : K} {j : Nat} (hi : idx ms k = some j) : ∀ (a : Nat) (y : K), j < a → (keysOf ms)[a]? = some y → kB y k = false := by
  intro a y ha hy
  obtain ⟨h1, h2, _⟩ := List.findIdx?_eq_some_iff_getElem.1 hi
  obtain ⟨h3, rfl⟩ := List.getElem?_eq_some_iff.1 hy
  have := List.pairwise_iff_getElem.1 h j a h1 h3 ha
  have h4 : (keysOf ms)[j] = k := (kB_iff _ _).1 h2
  rw [h4] at this
  rw [kB_comm]
  exact this
/-- DeleteFunc over the order. -/
theorem del_any (k : K) (kb : Nat) (hO : OrdAt F w ov (keysOf ms)) (hone : One ms) (hn : ms.length ≤ 1000000) (hk : w.heap[kb]? = some (.cells #[.int .u32 k.1, .int .i64 k.2] 75 (0, 0))) (hF : ¬ F kb) :
    Calls Try.prog 33 #[ov, .func (.func 34) #[] #[.pointer (some ⟨kb, 0, none⟩)]] w fun e w' => ∃ ov', e = .returned ov' ∧ OrdAt F w' ov' (keysOf (del ms k)) ∧ Mod (fun x => F x ∧ ∃ cells, w.heap[x]? = some (.cells cells 75 (0, 0))) w w' := by
  rcases hO with ⟨rfl, he⟩ | ⟨g, cap, cur, rfl, hg, hb, hsz, hcap, hmax, hcur⟩
  · have hd : del ms k = ms := by
      have : ms = [] := by simpa [keysOf] using he
      subst this; rfl
    refine (del_nil k _ w).mono ?_
    rintro e w' ⟨rfl, hb⟩
    exact ⟨_, rfl, .inl ⟨rfl, by rw [hd]; exact he⟩, Mod.of_below hb⟩
  · have hlen : (keysOf ms).length = ms.length := by simp [keysOf]
    have hix := idx_of ms k
    cases hi : idx ms k with
    | none =>
      rw [hi] at hix
      refine (del_no (keysOf ms) k g cap kb cur w hb hcur (by omega) hcap hk hix).mono ?_
      rintro e w' ⟨rfl, hb2⟩
      refine ⟨_, rfl, .inr ⟨g, cap, cur, ?_, hg, blk_below hb hb2, hsz, ?_, hmax, ?_⟩, Mod.of_below hb2⟩
      · rw [keys_del, hi]
      · rw [keys_del, hi]; exact hcap
      · rw [keys_del, hi]; exact hcur
    | some j =>
      rw [hi] at hix
      have hl := idx_lt hi
      refine (del_hit (keysOf ms) k g cap kb j cur w hb hsz hcur (by omega) hcap hk (fun e => hF (by rw [e]; exact hg)) hix (by omega) (hone.behind hi)).mono ?_
      rintro e w' ⟨cur', rfl, h1, h2, h3, h4⟩
      have hle : ((keysOf ms).eraseIdx j).length ≤ (keysOf ms).length := (List.eraseIdx_sublist _ _).length_le
      refine ⟨_, rfl, .inr ⟨g, cap, cur', ?_, hg, h1, by omega, ?_, hmax, ?_⟩, h4.mono (fun x hx => by rw [hx]; exact ⟨hg, cur, hb⟩)⟩
      · rw [keys_del, hi]
      · rw [keys_del, hi]; simp only []; omega
      · rw [keys_del, hi]; exact h3
/-- What place answers, whatever was. -/
def PlaceS (F : Nat → Prop) (b : Nat) (most : Int) (ov : Value) (ms : List En) (h m : Int) (w : World) (e : Ending) (w' : World) : Prop :=
  ∃ mb, e = .returned (.map (some mb)) ∧ w'.heap[b]? = some (cb most 1 (.map (some mb)) ov h m) ∧ MapIs (fun k => F k ∨ w.heap.size ≤ k) w' mb ms ∧ OrdAt F w' ov (keysOf ms) ∧ Mod (· = b) w w'
theorem place_any (hb : w.heap[b]? = some (cb most d mv ov h m)) (hM : MapAt F w d mv ms) (hO : OrdAt F w ov (keysOf ms)) : Calls Try.prog 26 #[.pointer (some ⟨b, 0, none⟩)] w (PlaceS F b most ov ms h m w) := by
  have keep : ∀ w' : World, Mod (· = b) w w' → ∀ k o, w.heap[k]? = some o → (∀ mv' d' , o ≠ cb most d' mv' ov h m) → w'.heap[k]? = w.heap[k]? := fun w' hm k o ho hne =>
    hm.keep k (blk_lt ho) (fun e => by rw [e, hb] at ho; exact hne _ _ (Option.some.inj ho).symm)
  rcases hM with ⟨rfl, rfl, rfl⟩ | ⟨mb, rfl, rfl, h3⟩
  · refine (place_first hb).mono ?_
    rintro e w' ⟨mb, rfl, h1, h2, h3, h4⟩
    refine ⟨mb, rfl, h1, ⟨.inr h3, _, _, h2, Ents.nil _ _, Born.nil _⟩, hO.step (fun k cells _ hc => keep w' h4 k _ hc (fun _ _ e => by unfold cb at e; injection e with _ e _; exact absurd e (by decide))) (fun _ hk _ => hk), h4⟩
  · refine (place_done mb hb).mono ?_
    rintro e w' ⟨rfl, h1⟩
    exact ⟨mb, rfl, blk_below hb h1, h3.step (fun k o _ ho _ => h1.block k (blk_lt ho)) (fun _ hk _ => .inl hk), hO.step (fun k _ _ ho => h1.block k (blk_lt ho)) (fun _ hk _ => hk), Mod.of_below h1⟩
end
end Go.Proofs.Ytnmfmcjgjjanfaa.Cache
