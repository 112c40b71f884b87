/- The cache and the reference's, side by side: what each call leaves. -/
import Derived.Test.YtnmfmcjgjjanfaaRefAll
import Derived.Test.YtnmfmcjgjjanfaaClear
namespace Go.Proofs.Ytnmfmcjgjjanfaa.Cache
open Go Go.RowKit Go.Proofs.YtnmfmcjgjjanfaaW.PrintWords Go.Proofs.YtnmfmcjgjjanfaaW.PrintLast Go.Proofs.YtnmfmcjgjjanfaaW.PrintMore Go.Proofs.Ytnmfmcjgjjanfaa.Pr Go.Proofs.Ytnmfmcjgjjanfaa.Lits
set_option linter.unusedVariables false
set_option linter.unusedSimpArgs false
/-- Two caches of one program; X: blocks of neither, that stand. -/
def Two (W : World) (X : Nat → Prop) (b c : Nat) (most : Int) (ms1 ms2 : List En) (h1 m1 h2 m2 : Int) (w : World) : Prop :=
  (∀ x, x < W.heap.size → X x) ∧ (∀ x, X x → x < w.heap.size) ∧ Below W.heap.size W w ∧
  ∃ P Q d, (∀ x, P x → Q x → False) ∧ (∀ x, P x → ¬ X x ∧ x < w.heap.size) ∧ (∀ x, Q x → ¬ X x ∧ x < w.heap.size) ∧ Has P b most d ms1 h1 m1 w ∧ Ref Q c most ms2 h2 m2 w
/-- All of X stands. -/
def Keeps (X : Nat → Prop) (w w' : World) : Prop := Mod (fun x => ¬ X x) w w'
section
variable {W w w' : World} {X X' : Nat → Prop} {b c : Nat} {most h1 m1 h2 m2 h1' m1' h2' m2' : Int} {ms1 ms2 ms1' ms2' : List En}
theorem Two.low (ht : Two W X b c most ms1 ms2 h1 m1 h2 m2 w) : Below W.heap.size W w := ht.2.2.1
theorem Two.kept (ht : Two W X b c most ms1 ms2 h1 m1 h2 m2 w) (hk : Keeps X w w') : Below W.heap.size W w' := hk.below ht.low (fun x hx => Nat.le_of_not_lt (fun hl => hx (ht.1 x hl))) ht.low.size
theorem Two.below (ht : Two W X b c most ms1 ms2 h1 m1 h2 m2 w) (hb : Below w.heap.size w w') : Two W X b c most ms1 ms2 h1 m1 h2 m2 w' := by
  obtain ⟨a1, a2, a3, P, Q, d, a4, a5, a6, a7, a8⟩ := ht
  exact ⟨a1, fun x hx => Nat.lt_of_lt_of_le (a2 x hx) hb.size, below_step a3 hb, P, Q, d, a4, fun x hx => ⟨(a5 x hx).1, Nat.lt_of_lt_of_le (a5 x hx).2 hb.size⟩, fun x hx => ⟨(a6 x hx).1, Nat.lt_of_lt_of_le (a6 x hx).2 hb.size⟩, a7.below hb, a8.below hb⟩
theorem Two.next (ht : Two W X b c most ms1 ms2 h1 m1 h2 m2 w) (hb : Below w.heap.size w w') : Two W (fun x => X x ∨ (w.heap.size ≤ x ∧ x < w'.heap.size)) b c most ms1 ms2 h1 m1 h2 m2 w' := by
  obtain ⟨a1, a2, a3, P, Q, d, a4, a5, a6, a7, a8⟩ := ht
  refine ⟨fun x hx => .inl (a1 x hx), fun x hx => hx.elim (fun h => Nat.lt_of_lt_of_le (a2 x h) hb.size) (fun h => h.2), below_step a3 hb, P, Q, d, a4, fun x hx => ⟨fun h => ?_, Nat.lt_of_lt_of_le (a5 x hx).2 hb.size⟩, fun x hx => ⟨fun h => ?_, Nat.lt_of_lt_of_le (a6 x hx).2 hb.size⟩, a7.below hb, a8.below hb⟩
  · exact h.elim (a5 x hx).1 (fun h => by have := (a5 x hx).2; omega)
  · exact h.elim (a6 x hx).1 (fun h => by have := (a6 x hx).2; omega)
theorem Two.less (ht : Two W X b c most ms1 ms2 h1 m1 h2 m2 w) (hX : ∀ x, X' x → X x) (hW : ∀ x, x < W.heap.size → X' x) : Two W X' b c most ms1 ms2 h1 m1 h2 m2 w := by
  obtain ⟨a1, a2, a3, P, Q, d, a4, a5, a6, a7, a8⟩ := ht
  exact ⟨hW, fun x hx => a2 x (hX x hx), a3, P, Q, d, a4, fun x hx => ⟨fun h => (a5 x hx).1 (hX x h), (a5 x hx).2⟩, fun x hx => ⟨fun h => (a6 x hx).1 (hX x h), (a6 x hx).2⟩, a7, a8⟩
/-- A call of the first. -/
theorem Two.one {f : Nat} {args : Array Value} {Φ : Ending → World → Prop} (ht : Two W X b c most ms1 ms2 h1 m1 h2 m2 w)
    (hc : ∀ P d, Has P b most d ms1 h1 m1 w → Up P w → (∀ w', Mod P w w' → Keeps X w w') → Calls Try.prog f args w fun e w' => Φ e w' ∧ Has P b most 1 ms1' h1' m1' w' ∧ Mod P w w') :
    Calls Try.prog f args w fun e w' => Φ e w' ∧ Two W X b c most ms1' ms2 h1' m1' h2 m2 w' ∧ Keeps X w w' := by
  have ht' := ht
  obtain ⟨a1, a2, a3, P, Q, d, a4, a5, a6, a7, a8⟩ := ht
  have hp : ∀ x, P x ∨ w.heap.size ≤ x → ¬ X x := fun x hx h => hx.elim (fun h2 => (a5 x h2).1 h) (fun h2 => by have := a2 x h; omega)
  have hk : ∀ w', Mod (fun x => P x ∨ w.heap.size ≤ x) w w' → Keeps X w w' := fun w' hm => hm.mono hp
  refine (hc (fun x => P x ∨ w.heap.size ≤ x) d (a7.mono (fun x hx => .inl hx)) (fun x hx => .inr hx) hk).mono ?_
  rintro e w' ⟨p1, p2, p3⟩
  have hs := p3.size
  obtain ⟨F, f1, f2⟩ := p2
  refine ⟨p1, ⟨a1, fun x hx => Nat.lt_of_lt_of_le (a2 x hx) hs, ht'.kept (hk w' p3), F, Q, 1, fun x hx hq => ?_, fun x hx => ⟨hp x (f1 x hx).1, (f1 x hx).2⟩, fun x hx => ⟨(a6 x hx).1, Nat.lt_of_lt_of_le (a6 x hx).2 hs⟩, ⟨F, fun x hx => ⟨hx, (f1 x hx).2⟩, f2⟩, a8.mod p3 (fun x hq hx => ?_)⟩, hk w' p3⟩
  · exact (f1 x hx).1.elim (fun h => a4 x h hq) (fun h => by have := (a6 x hq).2; omega)
  · exact hx.elim (fun h => a4 x h hq) (fun h => by have := (a6 x hq).2; omega)
/-- A call of the reference's. -/
theorem Two.two {f : Nat} {args : Array Value} {Φ : Ending → World → Prop} (ht : Two W X b c most ms1 ms2 h1 m1 h2 m2 w)
    (hc : ∀ Q, Ref Q c most ms2 h2 m2 w → Up Q w → (∀ w', Mod Q w w' → Keeps X w w') → Calls Try.prog f args w fun e w' => Φ e w' ∧ Ref Q c most ms2' h2' m2' w' ∧ Mod Q w w') :
    Calls Try.prog f args w fun e w' => Φ e w' ∧ Two W X b c most ms1 ms2' h1 m1 h2' m2' w' ∧ Keeps X w w' := by
  have ht' := ht
  obtain ⟨a1, a2, a3, P, Q, d, a4, a5, a6, a7, a8⟩ := ht
  have hp : ∀ x, Q x ∨ w.heap.size ≤ x → ¬ X x := fun x hx h => hx.elim (fun h2 => (a6 x h2).1 h) (fun h2 => by have := a2 x h; omega)
  have hk : ∀ w', Mod (fun x => Q x ∨ w.heap.size ≤ x) w w' → Keeps X w w' := fun w' hm => hm.mono hp
  refine (hc (fun x => Q x ∨ w.heap.size ≤ x) (a8.mono (fun x hx _ => .inl hx)) (fun x hx => .inr hx) hk).mono ?_
  rintro e w' ⟨p1, p2, p3⟩
  have hs := p3.size
  refine ⟨p1, ⟨a1, fun x hx => Nat.lt_of_lt_of_le (a2 x hx) hs, ht'.kept (hk w' p3), P, fun x => (Q x ∨ w.heap.size ≤ x) ∧ x < w'.heap.size, d, fun x hx hq => ?_, fun x hx => ⟨(a5 x hx).1, Nat.lt_of_lt_of_le (a5 x hx).2 hs⟩, fun x hx => ⟨hp x hx.1, hx.2⟩, a7.mod p3 (fun x hx _ hq => ?_), p2.mono (fun x hx hl => ⟨hx, hl⟩)⟩, hk w' p3⟩
  · exact hq.1.elim (fun h => a4 x hx h) (fun h => by have := (a5 x hx).2; omega)
  · exact hq.elim (fun h => a4 x hx h) (fun h => by have := (a5 x hx).2; omega)
end
/-! What the lists become. -/
def Tidy (most : Int) (ms : List En) : Prop := (ms.length : Int) ≤ most ∧ ∀ e, e ∈ ms → e.2.2.length ≤ 10
theorem Tidy.nil {most : Int} (h : 0 ≤ most) : Tidy most [] := ⟨by simpa using h, fun e he => by simp at he⟩
section
variable {most : Int} {ms ms' : List En}
theorem Tidy.sub (ht : Tidy most ms) (hs : ms'.Sublist ms) : Tidy most ms' := ⟨by have := hs.length_le; have := ht.1; omega, fun e he => ht.2 e (hs.subset he)⟩
theorem Tidy.del (ht : Tidy most ms) (k : K) : Tidy most (del ms k) := by
  unfold Cache.del
  split
  · exact ht.sub (List.eraseIdx_sublist _ _)
  · exact ht
theorem Tidy.rest (ht : Tidy most ms) (pc : Int) : Tidy most (rest pc ms) := ht.sub List.filter_sublist
theorem Tidy.put (ht : Tidy most ms) (k : K) (gen : Int) (xs : List S25) (hx : xs.length ≤ 10) (h1 : 1 ≤ most) : Tidy most (putL most ms k gen xs) := by
  have hd := ht.del k
  have hg : ∀ e, e ∈ grown ms k gen xs → e.2.2.length ≤ 10 := fun e he => by
    rcases List.mem_append.1 he with he | he
    · exact hd.2 e he
    · rw [List.mem_singleton.1 he]; exact hx
  have hl : (grown ms k gen xs).length = (Cache.del ms k).length + 1 := by unfold grown; simp
  have hl2 := hd.1
  unfold putL
  split
  · refine ⟨?_, fun e he => hg e (List.mem_of_mem_tail he)⟩
    rw [List.length_tail]; omega
  · rename_i hn
    exact ⟨by omega, hg⟩
/-- What a Get finds: what it leaves, the list, whether there is one. -/
def found (ms : List En) (k : K) (gen : Int) : List En × List S25 × Bool :=
  match idx ms k with
  | none => (ms, [], false)
  | some j => match ms[j]? with
    | none => (ms, [], false)
    | some e => if e.2.1 = gen then (ms, e.2.2, true) else (Cache.del ms k, [], false)
theorem found_cases (ms : List En) (k : K) (gen : Int) :
    (idx ms k = none ∧ found ms k gen = (ms, [], false)) ∨ (∃ j, ∃ hj : j < ms.length, idx ms k = some j ∧ ¬ ms[j].2.1 = gen ∧ found ms k gen = (Cache.del ms k, [], false)) ∨
      (∃ j, ∃ hj : j < ms.length, idx ms k = some j ∧ ms[j].2.1 = gen ∧ found ms k gen = (ms, ms[j].2.2, true)) := by
  unfold found
  cases hk : idx ms k with
  | none => exact .inl ⟨rfl, rfl⟩
  | some j =>
    have hj := idx_lt hk
    simp only [List.getElem?_eq_getElem hj]
    by_cases hg : ms[j].2.1 = gen
    · exact .inr (.inr ⟨j, hj, rfl, hg, by rw [if_pos hg]⟩)
    · exact .inr (.inl ⟨j, hj, rfl, hg, by rw [if_neg hg]⟩)
theorem Tidy.found (ht : Tidy most ms) (k : K) (gen : Int) : Tidy most (found ms k gen).1 ∧ (Cache.found ms k gen).2.1.length ≤ 10 := by
  rcases found_cases ms k gen with ⟨_, e⟩ | ⟨j, hj, _, _, e⟩ | ⟨j, hj, _, _, e⟩
  · rw [e]; exact ⟨ht, by simp⟩
  · rw [e]; exact ⟨ht.del k, by simp⟩
  · rw [e]; exact ⟨ht, ht.2 _ (List.getElem_mem hj)⟩
end
section
variable {W w w' : World} {X : Nat → Prop} {b c : Nat} {most h1 m1 h2 m2 : Int} {ms1 ms2 : List En}
def hitsOf (ok : Bool) : Int := if ok then 1 else 0
def missOf (ok : Bool) : Int := if ok then 0 else 1
theorem two_put1 (k : K) (gen : Int) (A : Option Addr) (cc : Nat) (xs : List S25) (ht : Two W X b c most ms1 ms2 h1 m1 h2 m2 w) (hn : ms1.length ≤ 1000) (hC : Kd.C k25 W A xs.length xs) (hc : xs.length ≤ cc) (hx : xs.length ≤ 10) :
    Calls Try.prog 10 #[.pointer (some ⟨b, 0, none⟩), .int .u32 k.1, .int .i64 k.2, .int .u32 gen, .slice A xs.length cc] w fun e w' => e = .returned (.tuple #[]) ∧ Two W X b c most (putL most ms1 k gen xs) ms2 h1 m1 h2 m2 w' ∧ Keeps X w w' :=
  ht.one (Φ := fun e _ => e = .returned (.tuple #[])) (fun P d hh hu hk => put_has k gen A cc xs hh hu hn (fun w' hm => Kd.C_below hC (ht.kept (hk w' hm))) hc (by omega))
theorem two_put2 (k : K) (gen : Int) (A : Option Addr) (cc : Nat) (xs : List S25) (ht : Two W X b c most ms1 ms2 h1 m1 h2 m2 w) (hn : ms2.length ≤ 1000) (hC : ∀ w', Keeps X w w' → Kd.C k83 w' A xs.length (refs xs)) (hx : xs.length ≤ 10) :
    Calls Try.prog 19 #[.pointer (some ⟨c, 0, none⟩), .int .u32 k.1, .int .i64 k.2, .int .u32 gen, .slice A xs.length cc] w fun e w' => e = .returned (.tuple #[]) ∧ Two W X b c most ms1 (putL most ms2 k gen xs) h1 m1 h2 m2 w' ∧ Keeps X w w' :=
  ht.two (Φ := fun e _ => e = .returned (.tuple #[])) (fun P hh hu hk => ref_put k gen A cc xs hh hu hn (fun w' hm => hC w' (hk w' hm)) (by omega))
theorem two_drop1 (pc : Int) (ht : Two W X b c most ms1 ms2 h1 m1 h2 m2 w) (hn : ms1.length ≤ 1000) :
    Calls Try.prog 16 #[.pointer (some ⟨b, 0, none⟩), .int .u32 pc] w fun e w' => e = .returned (.int .i64 (cnt pc ms1)) ∧ Two W X b c most (rest pc ms1) ms2 h1 m1 h2 m2 w' ∧ Keeps X w w' :=
  ht.one (Φ := fun e _ => e = .returned (.int .i64 (cnt pc ms1))) (fun P d hh hu hk => drop_has pc hh hu hn)
theorem two_drop2 (pc : Int) (ht : Two W X b c most ms1 ms2 h1 m1 h2 m2 w) (hn : ms2.length ≤ 1000) :
    Calls Try.prog 21 #[.pointer (some ⟨c, 0, none⟩), .int .u32 pc] w fun e w' => e = .returned (.int .i64 (cnt pc ms2)) ∧ Two W X b c most ms1 (rest pc ms2) h1 m1 h2 m2 w' ∧ Keeps X w w' :=
  ht.two (Φ := fun e _ => e = .returned (.int .i64 (cnt pc ms2))) (fun P hh hu hk => ref_drop pc hh hu hn)
theorem two_clear1 (ht : Two W X b c most ms1 ms2 h1 m1 h2 m2 w) :
    Calls Try.prog 17 #[.pointer (some ⟨b, 0, none⟩)] w fun e w' => e = .returned (.tuple #[]) ∧ Two W X b c most [] ms2 h1 m1 h2 m2 w' ∧ Keeps X w w' :=
  ht.one (Φ := fun e _ => e = .returned (.tuple #[])) (fun P d hh hu hk => clear_has hh hu)
theorem two_clear2 (ht : Two W X b c most ms1 ms2 h1 m1 h2 m2 w) :
    Calls Try.prog 22 #[.pointer (some ⟨c, 0, none⟩)] w fun e w' => e = .returned (.tuple #[]) ∧ Two W X b c most ms1 [] h1 m1 h2 m2 w' ∧ Keeps X w w' :=
  ht.two (Φ := fun e _ => e = .returned (.tuple #[])) (fun P hh hu hk => ref_clear hh)
theorem two_len1 (ht : Two W X b c most ms1 ms2 h1 m1 h2 m2 w) : Calls Try.prog 15 #[.pointer (some ⟨b, 0, none⟩)] w fun e w' => e = .returned (.int .i64 ms1.length) ∧ w = w' := let ⟨_, _, _, _, _, _, _, _, _, a7, _⟩ := ht; len_has a7
theorem two_hits1 (ht : Two W X b c most ms1 ms2 h1 m1 h2 m2 w) : Calls Try.prog 14 #[.pointer (some ⟨b, 0, none⟩)] w fun e w' => e = .returned (.int .i64 h1) ∧ w = w' := let ⟨_, _, _, _, _, _, _, _, _, a7, _⟩ := ht; hits_has a7
theorem two_misses1 (ht : Two W X b c most ms1 ms2 h1 m1 h2 m2 w) : Calls Try.prog 18 #[.pointer (some ⟨b, 0, none⟩)] w fun e w' => e = .returned (.int .i64 m1) ∧ w = w' := let ⟨_, _, _, _, _, _, _, _, _, a7, _⟩ := ht; misses_has a7
theorem two_len2 (ht : Two W X b c most ms1 ms2 h1 m1 h2 m2 w) : Calls Try.prog 23 #[.pointer (some ⟨c, 0, none⟩)] w fun e w' => e = .returned (.int .i64 ms2.length) ∧ w = w' := let ⟨_, _, _, _, _, _, _, _, _, _, a8⟩ := ht; ref_len a8
theorem two_cells (ht : Two W X b c most ms1 ms2 h1 m1 h2 m2 w) : w.cell? ⟨c, 2, none⟩ = some (.int .i64 h2) ∧ w.cell? ⟨c, 3, none⟩ = some (.int .i64 m2) := by
  obtain ⟨_, _, _, _, _, _, _, _, _, _, _, ov, h2, _⟩ := ht
  exact ⟨(blk_cell h2 2).trans rfl, (blk_cell h2 3).trans rfl⟩
theorem two_get2 (k : K) (gen : Int) (ht : Two W X b c most ms1 ms2 h1 m1 h2 m2 w) (hn : ms2.length ≤ 1000) (a0 : 0 ≤ h2) (a1 : h2 ≤ 1000000) (a2 : 0 ≤ m2) (a3 : m2 ≤ 1000000) :
    Calls Try.prog 20 #[.pointer (some ⟨c, 0, none⟩), .int .u32 k.1, .int .i64 k.2, .int .u32 gen] w fun e w' =>
      (∃ A cc, e = .returned (.tuple #[.slice A (found ms2 k gen).2.1.length cc, .bool (found ms2 k gen).2.2]) ∧ (found ms2 k gen).2.1.length ≤ cc ∧ Kd.C k83 w' A (found ms2 k gen).2.1.length (refs (found ms2 k gen).2.1)) ∧
      Two W X b c most ms1 (found ms2 k gen).1 h1 m1 (h2 + hitsOf (found ms2 k gen).2.2) (m2 + missOf (found ms2 k gen).2.2) w' ∧ Keeps X w w' := by
  refine ht.two (Φ := fun e w' => ∃ A cc, e = .returned (.tuple #[.slice A (found ms2 k gen).2.1.length cc, .bool (found ms2 k gen).2.2]) ∧ (found ms2 k gen).2.1.length ≤ cc ∧ Kd.C k83 w' A (found ms2 k gen).2.1.length (refs (found ms2 k gen).2.1)) (fun P hh hu hk => ?_)
  rcases found_cases ms2 k gen with ⟨i1, e⟩ | ⟨j, hj, i1, i2, e⟩ | ⟨j, hj, i1, i2, e⟩
  · rw [e]
    refine (ref_no k gen i1 hh hu hn a2 a3).mono ?_
    rintro e w' ⟨rfl, p1, p2⟩
    exact ⟨⟨none, 0, rfl, by simp, Kd.C_nil k83 w'⟩, by simpa [hitsOf, missOf] using p1, p2⟩
  · rw [e]
    refine (ref_miss k gen j i1 hj i2 hh hu hn a2 a3).mono ?_
    rintro e w' ⟨rfl, p1, p2⟩
    exact ⟨⟨none, 0, rfl, by simp, Kd.C_nil k83 w'⟩, by simpa [hitsOf, missOf] using p1, p2⟩
  · rw [e]
    refine (ref_hit k gen j i1 hj i2 hh hu hn a0 a1).mono ?_
    rintro e w' ⟨A, cc, rfl, q1, q2, p1, p2⟩
    exact ⟨⟨A, cc, rfl, q1, q2⟩, by simpa [hitsOf, missOf] using p1, p2⟩
theorem two_get1 (k : K) (gen : Int) (ht : Two W X b c most ms1 ms2 h1 m1 h2 m2 w) (hy : Tidy most ms1) (hm : most ≤ 256) (a0 : 0 ≤ h1) (a1 : h1 ≤ 1000000) (a2 : 0 ≤ m1) (a3 : m1 ≤ 1000000) :
    Calls Try.prog 11 #[.pointer (some ⟨b, 0, none⟩), .int .u32 k.1, .int .i64 k.2, .int .u32 gen] w fun e w' =>
      ∃ A cc X', e = .returned (.tuple #[.slice A (found ms1 k gen).2.1.length cc, .bool (found ms1 k gen).2.2]) ∧ (found ms1 k gen).2.1.length ≤ cc ∧ (∀ x, X x → X' x) ∧ (∀ w'', Keeps X' w' w'' → Kd.C k25 w'' A (found ms1 k gen).2.1.length (found ms1 k gen).2.1) ∧
      Two W X' b c most (found ms1 k gen).1 ms2 (h1 + hitsOf (found ms1 k gen).2.2) (m1 + missOf (found ms1 k gen).2.2) h2 m2 w' ∧ Keeps X w w' := by
  have hn : ms1.length ≤ 1000 := by have := hy.1; omega
  rcases found_cases ms1 k gen with ⟨i1, e⟩ | ⟨j, hj, i1, i2, e⟩ | ⟨j, hj, i1, i2, e⟩
  · rw [e]
    refine (ht.one (Φ := fun e _ => e = .returned (.tuple #[.slice none 0 0, .bool false])) (fun P d hh hu hk => get_no_has k gen i1 hh hu hn a0 a1 a2 a3)).mono ?_
    rintro e w' ⟨rfl, p1, p2⟩
    exact ⟨none, 0, X, rfl, by simp, fun _ h => h, fun w'' _ => Kd.C_nil k25 w'', by simpa [hitsOf, missOf] using p1, p2⟩
  · rw [e]
    refine (ht.one (Φ := fun e _ => e = .returned (.tuple #[.slice none 0 0, .bool false])) (fun P d hh hu hk => get_miss_has k gen j ms1[j].1 ms1[j].2.1 ms1[j].2.2 i1 (List.getElem?_eq_getElem hj) i2 hh hu hn a0 a1 a2 a3)).mono ?_
    rintro e w' ⟨rfl, p1, p2⟩
    exact ⟨none, 0, X, rfl, by simp, fun _ h => h, fun w'' _ => Kd.C_nil k25 w'', by simpa [hitsOf, missOf] using p1, p2⟩
  · rw [e]
    have ht' := ht
    obtain ⟨b1, b2, b3, P, Q, d, b4, b5, b6, b7, b8⟩ := ht
    have hp : ∀ x, P x ∨ w.heap.size ≤ x → ¬ X x := fun x hx h => hx.elim (fun h2 => (b5 x h2).1 h) (fun h2 => by have := b2 x h; omega)
    have hg : ms1[j]? = some (ms1[j].1, gen, ms1[j].2.2) := by rw [List.getElem?_eq_getElem hj, ← i2]
    refine (get_hit_has k gen j ms1[j].1 ms1[j].2.2 i1 hg (by have := hy.2 _ (List.getElem_mem hj); omega) (b7.mono (P' := fun x => P x ∨ w.heap.size ≤ x) (fun x hx => .inl hx)) (fun x hx => .inr hx) hn a0 a1 a2 a3).mono ?_
    rintro e w' ⟨v, s, rfl, s1, s2, hv, p1, p2⟩
    obtain ⟨A, cc, rfl, l1, l2⟩ := Kd.R_reads hv
    have hk : Keeps X w w' := p2.mono hp
    have hs := p2.size
    obtain ⟨F, f1, f2⟩ := p1
    refine ⟨A, cc, fun x => X x ∨ (s ≤ x ∧ x < w'.heap.size), rfl, l1, fun _ h => .inl h, fun w'' hk2 => ?_, ⟨fun x hx => .inl (b1 x hx), fun x hx => hx.elim (fun h => Nat.lt_of_lt_of_le (b2 x h) hs) (fun h => h.2), ht'.kept hk, F, Q, 1, fun x hx hq => ?_, fun x hx => ⟨fun h => ?_, (f1 x hx).2⟩, fun x hx => ⟨fun h => ?_, Nat.lt_of_lt_of_le (b6 x hx).2 hs⟩, ⟨F, fun x hx => ⟨hx, (f1 x hx).2⟩, by simpa [hitsOf, missOf] using f2⟩, b8.mod p2 (fun x hq hx => ?_)⟩, hk⟩
    · have hv2 : Kd.R k25 25 w'' s (fun k => True ∧ s ≤ k ∧ k < w'.heap.size ∧ ∃ q, q ∈ 25 :: k25.E ∧ ∃ cells, w'.heap[k]? = some (.cells cells q (0, 0))) (.slice A ms1[j].2.2.length cc) ms1[j].2.2 :=
        Kd.R_step (Kd.R_bound hv) (fun x hx hl => hk2.keep x hl (fun h => h (.inr ⟨hx.2.1, hx.2.2.1⟩)))
      exact (Kd.R_reads' hv2).2.2
    · exact (f1 x hx).1.1.elim (fun h => b4 x h hq) (fun h => by have := (b6 x hq).2; omega)
    · exact h.elim (hp x (f1 x hx).1.1) (fun h => by have := (f1 x hx).1.2; omega)
    · exact h.elim (b6 x hx).1 (fun h => by have := (b6 x hx).2; omega)
    · exact hx.elim (fun h => b4 x h hq) (fun h => by have := (b6 x hq).2; omega)
end
end Go.Proofs.Ytnmfmcjgjjanfaa.Cache
