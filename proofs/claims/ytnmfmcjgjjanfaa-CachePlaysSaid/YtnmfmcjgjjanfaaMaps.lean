/- The map of the kept lists: what a look, a delete, an update of it come to. -/
import Derived.Test.YtnmfmcjgjjanfaaDel
import Derived.Test.YtnmfmcjgjjanfaaI0
import Derived.MapKept
import Derived.WideKeyRuns
namespace Go.Proofs.Ytnmfmcjgjjanfaa.Cache
open Go Go.RowKit Go.Proofs.YtnmfmcjgjjanfaaW.PrintWords Go.Proofs.YtnmfmcjgjjanfaaW.PrintLast Go.Proofs.YtnmfmcjgjjanfaaW.PrintMore Go.Proofs.Ytnmfmcjgjjanfaa.Pr
set_option linter.unusedVariables false
set_option linter.unusedSimpArgs false
/-- What is kept: a key, a page's number, a list. -/
abbrev En := K × Int × List S25
def keysOf (ms : List En) : List K := ms.map (·.1)
/-- A block in whole is another. -/
def putB (w : World) (b : Nat) (o : Obj) : World := { w with heap := w.heap.setIfInBounds b o }
theorem putB_same {w : World} {b : Nat} {o : Obj} (h : b < w.heap.size) : (putB w b o).heap[b]? = some o := by simp [putB, h]
theorem putB_ne {w : World} {b k : Nat} {o : Obj} (h : k ≠ b) : (putB w b o).heap[k]? = w.heap[k]? := by simp [putB, Ne.symm h]
theorem putB_size {w : World} {b : Nat} {o : Obj} : (putB w b o).heap.size = w.heap.size := by simp [putB]
theorem Mod.put {S : Nat → Prop} {w w1 : World} (h : Mod S w w1) {b : Nat} (hp : S b ∨ w.heap.size ≤ b) (o : Obj) : Mod S w (putB w1 b o) :=
  ⟨h.os, h.tape, h.output, by rw [putB_size]; exact h.size, fun k hk hs => (putB_ne (fun e => hp.elim (fun h => hs (by rw [e]; exact h)) (fun h => by omega))).trans (h.keep k hk hs)⟩
/-- The map's entries, in the order in which they came. -/
structure Ents (F : Nat → Prop) (w : World) (es : Array MapEntry) (ms : List En) : Prop where
  keys : es.toList.map (·.key) = ms.map (fun e => kv e.1)
  vals : ∀ (i : Nat) (x : MapEntry) (e : En), es.toList[i]? = some x → ms[i]? = some e → ∃ v, x.val = .agg #[.int .u32 e.2.1, v] ∧ Kd.R k25 25 w 0 F v e.2.2
theorem k25_E : k25.E = [] := rfl
theorem Ents.step {F F' : Nat → Prop} {w w1 : World} {es : Array MapEntry} {ms : List En} (h : Ents F w es ms) (hm : ∀ k cells, F k → w.heap[k]? = some (.cells cells 25 (0, 0)) → w1.heap[k]? = w.heap[k]?) (hF : ∀ k, F k → k < w.heap.size → F' k) : Ents F' w1 es ms :=
  ⟨h.keys, fun i x e hx he => by
    obtain ⟨v, h1, h2⟩ := h.vals i x e hx he
    refine ⟨v, h1, Kd.R_mono (Kd.R_move (Kd.R_bound h2) (fun k hk => ?_)) (fun k hk => hF k hk.1 hk.2.2.1)⟩
    obtain ⟨hf, _, hlt, q, hq, cells, hc⟩ := hk
    have hq' : q = 25 := by rw [k25_E] at hq; simpa using hq
    subst hq'
    exact hm k cells hf hc⟩
theorem Ents.size {F : Nat → Prop} {w : World} {es : Array MapEntry} {ms : List En} (h : Ents F w es ms) : es.size = ms.length := by
  have := congrArg List.length h.keys
  simpa using this
theorem Ents.nil (F : Nat → Prop) (w : World) : Ents F w #[] [] := ⟨rfl, fun i x e hx => by simp at hx⟩
theorem kB_comm (a b : K) : kB a b = kB b a := by
  unfold kB
  rw [show (a.1 == b.1) = (b.1 == a.1) from BEq.comm, show (a.2 == b.2) = (b.2 == a.2) from BEq.comm]
theorem eq75 (k x : K) (w : World) : (Op.equal 75 (kv k) (kv x)).run Try.prog w = .ok (kB k x) w := by
  unfold Op.equal Op.maxDepth
  exact eqA75 _ w k.1 x.1 k.2 x.2
theorem asking (k : K) (w : World) : ∀ (es : List MapEntry) (ks : List K) (i : Nat), es.map (·.key) = ks.map kv →
    (Instr.findAsking 75 (kv k) es i).run Try.prog w = .ok ((ks.findIdx? (fun x => kB x k)).bind (fun j => (es[j]?).map (fun e => (i + j, e.val)))) w
  | [], [], i, _ => by simp [Instr.findAsking]
  | [], _ :: _, i, h => by simp at h
  | _ :: _, [], i, h => by simp at h
  | e :: es, x :: ks, i, h => by
    simp only [List.map_cons, List.cons.injEq] at h
    obtain ⟨he, hr⟩ := h
    unfold Instr.findAsking
    rw [Sem.run_bind, he, eq75, kB_comm]
    simp only [Result.andThen]
    rw [List.findIdx?_cons]
    cases hb : kB x k with
    | true => simp
    | false =>
      simp only [Bool.false_eq_true, if_false]
      rw [asking k w es ks (i + 1) hr]
      cases hf : ks.findIdx? (fun x => kB x k) with
      | none => simp
      | some j => simp [Nat.add_assoc, Nat.add_comm 1 j]
theorem find75 (k : K) (w : World) (es : List MapEntry) (ks : List K) (h : es.map (·.key) = ks.map kv) :
    (Instr.findKey 75 (kv k) es).run Try.prog w = .ok ((ks.findIdx? (fun x => kB x k)).bind (fun j => (es[j]?).map (fun e => (j, e.val)))) w := by
  rw [run_findKey_eq w (by kernel_rfl), asking k w es ks 0 h]
  simp
theorem check75 (e : Bool) (k : K) (w : World) : (Instr.checkKey e 10000 75 (kv k)).run Try.prog w = .ok () w := by
  unfold kv
  kernel_rfl
def idx (ms : List En) (k : K) : Option Nat := (keysOf ms).findIdx? (fun x => kB x k)
section
variable {F : Nat → Prop} {w : World} {mb clock : Nat} {es : Array MapEntry} {ms : List En}
theorem Ents.keys' (h : Ents F w es ms) : es.toList.map (·.key) = (keysOf ms).map kv := by rw [h.keys]; simp [keysOf]
theorem Ents.find (h : Ents F w es ms) (k : K) : (Instr.findKey 75 (kv k) es.toList).run Try.prog w = .ok ((idx ms k).bind (fun j => (es.toList[j]?).map (fun e => (j, e.val)))) w := find75 k w es.toList (keysOf ms) h.keys'
theorem idx_lt {k : K} {j : Nat} (h : idx ms k = some j) : j < ms.length := by
  unfold idx at h
  have := (List.findIdx?_eq_some_iff_getElem.1 h).1
  simpa [keysOf] using this
/-- What a delete leaves. -/
def without (es : Array MapEntry) (ms : List En) (k : K) : Array MapEntry := match idx ms k with | some j => es.eraseIdxIfInBounds j | none => es
theorem run_delete (h : Ents F w es ms) (hb : w.heap[mb]? = some (.map es clock)) (k : K) (ty : TypeId) :
    (Builtin.delete_ #[67, 75] ty #[.map (some mb), kv k]).run Try.prog w = .ok (.tuple #[]) (putB w mb (.map (without es ms k) clock)) := by
  have ht := Try.underlying67
  have hf := h.find k
  unfold without
  cases hi : idx ms k with
  | none =>
    rw [hi] at hf
    simp only [Option.bind_none] at hf
    simp [Builtin.delete_, run_underlying ht, MapKept.run_getObj_map hb, check75, hf, MapKept.run_setObj_map _ hb, Result.andThen, putB]
  | some j =>
    have hj : j < es.toList.length := by have := h.size; have := idx_lt hi; simp; omega
    rw [hi] at hf
    simp only [Option.bind_some, List.getElem?_eq_getElem hj, Option.map_some] at hf
    simp [Builtin.delete_, run_underlying ht, MapKept.run_getObj_map hb, check75, hf, MapKept.run_setObj_map _ hb, Result.andThen, putB]
theorem run_update (h : Ents F w es ms) (hb : w.heap[mb]? = some (.map es clock)) (k : K) (v : Value) (hk : idx ms k = none) :
    (Instr.mapUpdate 67 (.map (some mb)) (kv k) v).run Try.prog w = .ok () (putB w mb (.map (es.push ⟨kv k, v, clock⟩) (clock + 1))) := by
  have ht := Try.underlying67
  have hf := h.find k
  rw [hk] at hf
  simp only [Option.bind_none] at hf
  simp [Instr.mapUpdate, run_underlying ht, MapKept.run_getObj_map hb, check75, hf, MapKept.run_setObj_map _ hb, Result.andThen, putB]
theorem run_look_no (h : Ents F w es ms) (hb : w.heap[mb]? = some (.map es clock)) (k : K) (hk : idx ms k = none) :
    (Instr.lookup 67 (.map (some mb)) (kv k) true).run Try.prog w = .ok (.tuple #[.agg #[.int .u32 0, .slice none 0 0], .bool false]) w := by
  have ht := Try.underlying67
  have hf := h.find k
  rw [hk] at hf
  simp only [Option.bind_none] at hf
  have hz : (zeroValue 79).run Try.prog w = .ok (.agg #[.int .u32 0, .slice none 0 0]) w := by kernel_rfl
  simp [Instr.lookup, run_underlying ht, MapKept.run_getObj_map hb, check75, hf, hz, Result.andThen]
theorem run_look (h : Ents F w es ms) (hb : w.heap[mb]? = some (.map es clock)) (k : K) (j : Nat) (hk : idx ms k = some j) :
    ∃ e v, ms[j]? = some e ∧ Kd.R k25 25 w 0 F v e.2.2 ∧ (Instr.lookup 67 (.map (some mb)) (kv k) true).run Try.prog w = .ok (.tuple #[.agg #[.int .u32 e.2.1, v], .bool true]) w := by
  have ht := Try.underlying67
  have hf := h.find k
  have hl := idx_lt hk
  have hj : j < es.toList.length := by have := h.size; simp; omega
  obtain ⟨v, h1, h2⟩ := h.vals j es.toList[j] ms[j] (List.getElem?_eq_getElem hj) (List.getElem?_eq_getElem hl)
  rw [hk] at hf
  simp only [Option.bind_some, List.getElem?_eq_getElem hj, Option.map_some] at hf
  refine ⟨ms[j], v, List.getElem?_eq_getElem hl, h2, ?_⟩
  rw [h1] at hf
  simp [Instr.lookup, run_underlying ht, MapKept.run_getObj_map hb, check75, hf, Result.andThen]
theorem run_wipe (hb : w.heap[mb]? = some (.map es clock)) (ty : TypeId) : (Builtin.clear_ #[67] ty #[.map (some mb)]).run Try.prog w = .ok (.tuple #[]) (putB w mb (.map #[] clock)) := by
  have ht := Try.underlying67
  simp [Builtin.clear_, run_underlying ht, MapKept.run_getObj_map hb, MapKept.run_setObj_map _ hb, Result.andThen, putB]
theorem toList_erase (es : Array MapEntry) (j : Nat) (h : j < es.size) : (es.eraseIdxIfInBounds j).toList = es.toList.eraseIdx j := by
  unfold Array.eraseIdxIfInBounds
  rw [dif_pos h]
  simp
/-- The list without a key. -/
def del (ms : List En) (k : K) : List En := match idx ms k with | some j => ms.eraseIdx j | none => ms
theorem map_eraseIdx' {α β : Type} (f : α → β) : ∀ (l : List α) (j : Nat), (l.eraseIdx j).map f = (l.map f).eraseIdx j
  | [], _ => by simp
  | _ :: _, 0 => by simp
  | a :: r, j + 1 => by simp [map_eraseIdx' f r j]
theorem Ents.without (h : Ents F w es ms) (k : K) : Ents F w (without es ms k) (del ms k) := by
  unfold Cache.without del
  cases hi : idx ms k with
  | none => exact h
  | some j =>
    have hl := idx_lt hi
    have hj : j < es.size := by have := h.size; omega
    refine ⟨?_, fun i x e hx he => ?_⟩
    · simp only []
      rw [toList_erase es j hj, map_eraseIdx', map_eraseIdx', h.keys]
    · simp only [] at hx he
      rw [toList_erase es j hj, List.getElem?_eraseIdx] at hx
      rw [List.getElem?_eraseIdx] at he
      by_cases hij : i < j
      · rw [if_pos hij] at hx he; exact h.vals i x e hx he
      · rw [if_neg hij] at hx he; exact h.vals (i + 1) x e hx he
theorem Ents.push (h : Ents F w es ms) (e : En) (v : Value) (c : Nat) (hv : Kd.R k25 25 w 0 F v e.2.2) : Ents F w (es.push ⟨kv e.1, .agg #[.int .u32 e.2.1, v], c⟩) (ms ++ [e]) := by
  have hs := h.size
  refine ⟨by simp [h.keys], fun i x y hx hy => ?_⟩
  rw [Array.toList_push] at hx
  by_cases hi : i < ms.length
  · rw [List.getElem?_append_left (by simp; omega)] at hx
    rw [List.getElem?_append_left hi] at hy
    exact h.vals i x y hx hy
  · have hl : i < (ms ++ [e]).length := (List.getElem?_eq_some_iff.1 hy).1
    have : i = ms.length := by simp at hl; omega
    subst this
    rw [show ms.length = es.toList.length by simp [hs]] at hx
    simp at hx hy
    subst hx hy
    exact ⟨v, rfl, hv⟩
/-- Each entry has a number of its own, below the map's clock. -/
def Born (es : Array MapEntry) (clock : Nat) : Prop := (∀ x ∈ es.toList, x.born < clock) ∧ (es.toList.map (·.born)).Nodup
theorem Born.nil (clock : Nat) : Born #[] clock := ⟨fun x hx => by simp at hx, by simp⟩
theorem Born.push (h : Born es clock) (k v : Value) : Born (es.push ⟨k, v, clock⟩) (clock + 1) := by
  refine ⟨fun x hx => ?_, ?_⟩
  · simp only [Array.toList_push, List.mem_append, List.mem_singleton] at hx
    rcases hx with hx | rfl
    · exact Nat.lt_succ_of_lt (h.1 x hx)
    · exact Nat.lt_succ_self _
  · rw [Array.toList_push, List.map_append, List.nodup_append]
    refine ⟨h.2, by simp, fun a ha b hb => ?_⟩
    simp only [List.map_cons, List.map_nil, List.mem_singleton] at hb
    subst hb
    obtain ⟨x, hx, rfl⟩ := List.mem_map.1 ha
    exact Nat.ne_of_lt (h.1 x hx)
theorem Born.without (h : Born es clock) (hl : es.size = ms.length) (k : K) : Born (without es ms k) clock := by
  unfold Cache.without
  cases hi : idx ms k with
  | none => exact h
  | some j =>
    have hj : j < es.size := by have := idx_lt hi; omega
    have hs : (es.eraseIdxIfInBounds j).toList.Sublist es.toList := by rw [toList_erase es j hj]; exact List.eraseIdx_sublist _ _
    exact ⟨fun x hx => h.1 x (hs.subset hx), h.2.sublist (hs.map _)⟩
end
end Go.Proofs.Ytnmfmcjgjjanfaa.Cache
