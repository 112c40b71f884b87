/- What a value that came in reads as: each type's cells, opened by the type's shape (numbers, bools, strings, slices, structs, arrays), over any program. -/
import Derived.Test.YtcjaepmecihmlaaWWords
import Derived.Deep.Slices
import Derived.OpenShut
import Derived.WideShapes
import Derived.ChangeArms
import Derived.DataReads
namespace Go.Proofs.Ytcjaepmecihmlaa.Open
open Go Go.RowKit Go.Deep Go.Proofs.YtcjaepmecihmlaaW.PrintWords
set_option linter.unusedVariables false

/-- Whatever reads as type t has cells that K tells of. -/
def Gives (P : Program) (w : World) (t : TypeId) {α : Type} (K : α → List Value → Prop) : Prop :=
  ∀ (H : Type) (enc : TypeId × Value → H) (base : Nat) (spare : Nat → Bool) (held : Bool) (fuel : Nat) (cs : List Value) (x : DataW H × List MemPlace),
    DataW.trod enc P w base spare held fuel t cs = some x → ∃ a, K a cs

variable {P : Program} {w : World}

theorem zf0 {t : TypeId} {k : IntKind} (ht : P.underlying t = some (.int k)) : Gives P w t (fun (a : Int) cs => cs = [.int k a] ∧ (Lit.int k a).wf = true) := by
  intro H enc base spare held fuel cs x h
  obtain ⟨n, h1, _, h2⟩ := DataW.trod_int ht h
  exact ⟨n, h1, h2⟩
theorem zf1 {α : Type} {t : TypeId} {K K' : α → List Value → Prop} (h : Gives P w t K) (hk : ∀ a cs, K a cs → K' a cs) : Gives P w t K' := by
  intro H enc base spare held fuel cs x hx
  obtain ⟨a, ha⟩ := h H enc base spare held fuel cs x hx
  exact ⟨a, hk _ _ ha⟩

theorem zfo {α : Type} (n : Nat) (p : Nat → α → Prop) (h : ∀ i, i < n → ∃ x, p i x) : ∃ xs : List α, xs.length = n ∧ ∀ i x, xs[i]? = some x → p i x := by
  induction n with
  | zero => exact ⟨[], rfl, fun i x hx => by simp at hx⟩
  | succ n ih =>
    obtain ⟨xs, hl, hx⟩ := ih (fun i hi => h i (by omega))
    obtain ⟨y, hy⟩ := h n (by omega)
    refine ⟨xs ++ [y], by simp [hl], fun i x hi => ?_⟩
    rcases Nat.lt_or_ge i n with hlt | hge
    · rw [List.getElem?_append_left (by omega)] at hi
      exact hx i x hi
    · have hin : i = n := by
        have := (List.getElem?_eq_some_iff.1 hi).1
        simp [hl] at this
        omega
      subst hin
      rw [List.getElem?_append_right (by omega)] at hi
      simp [hl] at hi
      exact hi ▸ hy

/-- A slice: its elements, and what is told of each. -/
theorem zfz {α : Type} {t e : TypeId} {d : Kd α} {p : α → Prop} (q : Nat) (ht : P.underlying t = some (.slice e)) (hz : P.cellsOf e = d.sz)
    (he : Gives P w e (fun (a : α) cs => d.K w a cs ∧ p a)) : Gives P w t (fun (xs : List α) cs => (Kd.slice q d).K w xs cs ∧ xs.length ≤ maxLen ∧ ∀ x ∈ xs, p x) := by
  intro H enc base spare held fuel cs x h
  rcases open_slice ht h with ⟨rfl, _⟩ | ⟨a, len, cap, m, n, D, Pl, rfl, hb, hl, hm, hmm, _, hel⟩
  · exact ⟨[], ⟨none, 0, rfl, by simp, rfl, by simp, fun h => absurd h (by simp)⟩, by simp, by simp⟩
  · have hlm : len ≤ m := by rw [hmm]; split <;> omega
    obtain ⟨xs, hxl, hx⟩ := zfo len (fun i (x : α) => ∃ c, c.length = d.sz ∧ (d.K w x c ∧ p x) ∧ ∀ j u, c[j]? = some u → w.cell? (a.add (i * d.sz + j)) = some u) (by
      intro i hi
      obtain ⟨c, hc, htr⟩ := hel i (by omega)
      obtain ⟨y, hy⟩ := he H enc base spare held n c _ htr
      refine ⟨y, c, ?_, hy, ?_⟩
      · rw [← hz]; exact (World.cells?_some hc).2.1
      · intro j u hu
        have hj : j < c.length := (List.getElem?_eq_some_iff.1 hu).1
        have := (World.cells?_some hc).2.2 j (by rw [← (World.cells?_some hc).2.1]; exact hj)
        rw [hz, Go.Deep.add_add] at this
        rw [this]; exact hu)
    have hmax : (maxLen : Nat) ≤ 9223372036854775807 := by unfold maxLen; omega
    refine ⟨xs, ⟨some a, cap, by rw [hxl], by omega, rfl, by omega, fun _ => ⟨a, rfl, fun j y hj => ?_⟩⟩, by omega, ?_⟩
    · obtain ⟨c, h1, h2, h3⟩ := hx j y hj
      exact ⟨c, h1, h2.1, h3⟩
    · intro y hy
      obtain ⟨j, hj, hjy⟩ := List.getElem_of_mem hy
      obtain ⟨c, _, h2, _⟩ := hx j y (by rw [List.getElem?_eq_getElem hj, hjy])
      exact h2.2

/-- A struct or an array by value: its cells. -/
theorem zh3 {r : Reach} {base : Nat} {t : TypeId} {v : Value} (ht : (∃ fs, P.underlying t = some (.struct fs)) ∨ (∃ n e, P.underlying t = some (.array n e))) (h : Value.okWide P w r base t v) : ∃ cs, v = .agg cs ∧ cs.size = P.cellsOf t := by
  rcases ht with ⟨fs, ht⟩ | ⟨n, e, ht⟩
  all_goals
    simp only [Value.okWide, ht] at h
    obtain ⟨cs, h1, h2, _⟩ := h
    exact ⟨cs, h1, h2⟩
theorem trod_agg {H : Type} {enc : TypeId × Value → H} {base : Nat} {spare : Nat → Bool} {held : Bool} {t : TypeId} {cs : Array Value} {d : DataW H} {ps : List MemPlace} {α : Type} {K : α → List Value → Prop}
    (hk : Gives P w t K) (h : DataW.Trod enc P w base spare held t (.agg cs) d ps) : ∃ a, K a cs.toList := by
  obtain ⟨fuel, hf⟩ := h
  exact hk H enc base spare held fuel _ _ (by simpa [Value.cells] using hf)
theorem zhh {cs : Array Value} {l : List Value} (h : cs.toList = l) : cs = l.toArray := by rw [← h]
/-- A value of one cell (a number, a bool, a string, a slice). -/
theorem trod_one {H : Type} {enc : TypeId × Value → H} {base : Nat} {spare : Nat → Bool} {held : Bool} {t : TypeId} {v : Value} {d : DataW H} {ps : List MemPlace} {α : Type} {K : α → List Value → Prop}
    (hk : Gives P w t K) (h1 : v.cells.toList = [v]) (h : DataW.Trod enc P w base spare held t v d ps) : ∃ a, K a [v] := by
  obtain ⟨fuel, hf⟩ := h
  exact hk H enc base spare held fuel _ _ (by rw [h1] at hf; exact hf)
end Go.Proofs.Ytcjaepmecihmlaa.Open
