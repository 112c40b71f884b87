/- maps.Keys over the cache's map: the iterator, for every loop body. -/
import Derived.Test.YtnmfmcjgjjanfaaClear
import Derived.Maps.RangeRun
import Derived.RangeFuncGives
import Derived.RangeFuncStops
import Derived.Shelf.Abstract
import Derived.OwnWalkIn
import Derived.TacticsInMore
import Derived.RegionIn
import Derived.LoopNIn
import Derived.LoopIn
namespace Go.Proofs.Ytnmfmcjgjjanfaa.Cache
open Go Go.RowKit Go.Shelf Go.Proofs.YtnmfmcjgjjanfaaW.PrintWords Go.Proofs.YtnmfmcjgjjanfaaW.PrintLast Go.Proofs.YtnmfmcjgjjanfaaW.PrintMore Go.Proofs.Ytnmfmcjgjjanfaa.Pr Go.Proofs.Ytnmfmcjgjjanfaa.Lits
open Go.ChangeMaps (setBlock)
set_option linter.unusedVariables false
set_option linter.unusedSimpArgs false
theorem run_range (w : World) (mb clock : Nat) (es : Array MapEntry) (hb : w.heap[mb]? = some (.map es clock)) : (Instr.range 67 (.map (some mb))).run Try.prog w = .ok (.pointer (some ⟨w.heap.size, 0, none⟩)) (w.alloc (.mapIter (some mb) clock #[] clock)) := by
  have ht := Try.underlying67
  simp [Instr.range, run_underlying ht, MapKept.run_getObj_map hb, Result.andThen]
def unkv : Value → K
  | .agg #[.int _ a, .int _ b] => (a, b)
  | _ => (0, 0)
theorem unkv_kv (k : K) : unkv (kv k) = k := rfl
def uk (e : MapEntry) : K := unkv e.key
theorem keys_uk {es : Array MapEntry} {ks : List K} (h : es.toList.map (·.key) = ks.map kv) : es.toList.map uk = ks := by
  have h2 : (es.toList.map (·.key)).map unkv = (ks.map kv).map unkv := by rw [h]
  rw [List.map_map, List.map_map] at h2
  have e : (unkv ∘ kv) = id := funext unkv_kv
  rw [e, List.map_id] at h2
  exact h2
theorem key_uk {es : Array MapEntry} {ks : List K} (h : es.toList.map (·.key) = ks.map kv) {e : MapEntry} (he : e ∈ es.toList) : e.key = kv (uk e) := by
  have : e.key ∈ ks.map kv := by rw [← h]; exact List.mem_map.2 ⟨e, he, rfl⟩
  obtain ⟨k, _, hk⟩ := List.mem_map.1 this
  unfold uk
  rw [← hk, unkv_kv]
/-- The entries that have come. -/
structure Came (es : Array MapEntry) (seen : Array Nat) (ls : List MapEntry) : Prop where
  borns : ls.map (·.born) = seen.toList
  nodup : seen.toList.Nodup
  sub : ∀ e ∈ ls, e ∈ es.toList
theorem Came.start (es : Array MapEntry) : Came es #[] [] := ⟨rfl, by simp, fun e he => by simp at he⟩
theorem Came.step {es : Array MapEntry} {seen : Array Nat} {ls : List MapEntry} (h : Came es seen ls) {e : MapEntry} (he : e ∈ (leftOf es seen).toList) : Came es (seen.push e.born) (ls ++ [e]) := by
  have h1 : e ∈ es := (Array.mem_filter.1 (Array.mem_toList_iff.1 he)).1
  have h2 := (Array.mem_filter.1 (Array.mem_toList_iff.1 he)).2
  have h3 : ¬ e.born ∈ seen.toList := by
    intro hm
    have : seen.contains e.born = true := by simpa using hm
    rw [this] at h2; cases h2
  refine ⟨by simp [h.borns], ?_, fun x hx => ?_⟩
  · rw [Array.toList_push, List.nodup_append]
    refine ⟨h.nodup, by simp, fun a ha b hb => ?_⟩
    simp only [List.mem_singleton] at hb
    subst hb
    intro hab
    subst hab
    exact h3 ha
  · rcases List.mem_append.1 hx with hx | hx
    · exact h.sub x hx
    · simp only [List.mem_singleton] at hx
      subst hx
      exact Array.mem_toList_iff.2 h1
theorem nodup_of_map {α β : Type} (f : α → β) : ∀ (l : List α), (l.map f).Nodup → l.Nodup
  | [], _ => List.nodup_nil
  | a :: r, h => by
    rw [List.map_cons, List.nodup_cons] at h
    rw [List.nodup_cons]
    exact ⟨fun ha => h.1 (List.mem_map.2 ⟨a, ha, rfl⟩), nodup_of_map f r h.2⟩
theorem nodup_le : ∀ (l m : List Nat), l.Nodup → (∀ x ∈ l, x ∈ m) → l.length ≤ m.length
  | [], _, _, _ => Nat.zero_le _
  | a :: r, m, hn, hs => by
    rw [List.nodup_cons] at hn
    have ha : a ∈ m := hs a (by simp)
    have h1 := nodup_le r (m.erase a) hn.2 (fun x hx => (List.mem_erase_of_ne (fun e => hn.1 (by rw [← e]; exact hx))).2 (hs x (by simp [hx])))
    rw [List.length_erase_of_mem ha] at h1
    have := List.length_pos_of_mem ha
    simp; omega
theorem Came.le {es : Array MapEntry} {seen : Array Nat} {ls : List MapEntry} (h : Came es seen ls) : ls.length ≤ es.size := by
  have h1 := nodup_le seen.toList (es.toList.map (·.born)) h.nodup (fun x hx => by
    rw [← h.borns] at hx
    obtain ⟨e, he, rfl⟩ := List.mem_map.1 hx
    exact List.mem_map.2 ⟨e, h.sub e he, rfl⟩)
  rw [← h.borns] at h1
  simpa using h1
theorem Came.all {es : Array MapEntry} {clock : Nat} {seen : Array Nat} {ls : List MapEntry} (h : Came es seen ls) (hb : Born es clock) (hl : (leftOf es seen).size = 0) : ls.Perm es.toList := by
  have hn : ls.Nodup := nodup_of_map (·.born) ls (by rw [h.borns]; exact h.nodup)
  refine (List.perm_ext_iff_of_nodup hn (nodup_of_map (·.born) _ hb.2)).2 (fun e => ⟨h.sub e, fun he => ?_⟩)
  have hs : seen.contains e.born = true := by
    cases hc : seen.contains e.born with
    | true => rfl
    | false =>
      have : e ∈ leftOf es seen := Array.mem_filter.2 ⟨Array.mem_toList_iff.1 he, by rw [hc]; rfl⟩
      have := Array.size_pos_of_mem this
      omega
  have hm : e.born ∈ ls.map (·.born) := by rw [h.borns]; simpa using hs
  obtain ⟨e', he', hb'⟩ := List.mem_map.1 hm
  have : e' = e := by
    have hp := hb.2
    obtain ⟨i, hi, hie⟩ := List.getElem_of_mem (h.sub e' he')
    obtain ⟨j, hj, hje⟩ := List.getElem_of_mem he
    have := (List.getElem_inj (i := i) (j := j) (h₀ := by simpa using hi) (h₁ := by simpa using hj) hp).1 (by simp only [List.getElem_map]; rw [hie, hje]; exact hb')
    subst this
    rw [← hie, ← hje]
  rw [← this]; exact he'
theorem iter_grown {w w1 : World} (hw : w1 = w ∨ w1 = w.drew) (r : Nat) (o : Obj) : w.grownBy (setBlock w1 r o) (some r) := by
  rcases hw with rfl | rfl <;> exact ⟨rfl, rfl, rfl, by simp [setBlock], fun k _ hk => by simp only [setBlock]; rw [Array.getElem?_setIfInBounds_ne (fun e => hk (by rw [e]))]; try rfl⟩
def seenLen (w : World) (r : Nat) : Nat := match w.heap[r]? with | some (.mapIter _ _ seen _) => seen.size | _ => 0
theorem seenLen_of {w : World} {r : Nat} {m : Option Nat} {a c : Nat} {seen : Array Nat} (h : w.heap[r]? = some (.mapIter m a seen c)) : seenLen w r = seen.size := by unfold seenLen; rw [h]
set_option maxRecDepth 100000 in
set_option maxHeartbeats 1000000 in
theorem keys_in (F : Fence) (n : Nat) (h40 : F.fn 40) (hro : F.round = none) (hn : 1 ≤ n) (l Bm mb clock : Nat) (es : Array MapEntry) (ks : List K) (J Jx : List K → World → Prop)
    (hY : ∀ pre x W, J pre W → pre.length < ks.length → YieldAt F (n - 1) Try.prog l #[kv x] W fun e W' => (e = .returned (.bool true) ∧ J (pre ++ [x]) W' ∧ KeepsWalks W W') ∨ (e = .returned (.bool false) ∧ Jx (pre ++ [x]) W'))
    (W : World) (hJ : AbidesFrom W.heap.size J) (hm : W.cell? ⟨Bm, 0, none⟩ = some (.map (some mb))) (hmp : W.heap[mb]? = some (.map es clock)) (hbn : Born es clock) (hks : es.toList.map (·.key) = ks.map kv) (h0 : J [] W) :
    CallsIn F n Try.prog 40 #[.func (.yield l) #[] #[], .pointer (some ⟨Bm, 0, none⟩)] W fun e W' => (∃ v, e = .returned v) ∧ ((∃ ss : List K, ss.Perm ks ∧ J ss W') ∨ ∃ pre : List K, True ∧ Jx pre W') := by
  have hrg := run_range W mb clock es hmp
  have hlen : es.size = ks.length := by have := congrArg List.length hks; simpa using this
  have hmb := blk_lt hmp
  refine callsIn_of_wp Try.func40 rfl h40 ?_ hro
  simp only [Try.ntmps40, List.size_toArray, List.length_cons, List.length_nil, Nat.reduceAdd, Nat.reduceSub, Array.replicate_succ, Array.replicate_zero, List.push_toArray, List.append_toArray, List.nil_append, List.cons_append]
  gi_wp2
  have hr0 : (W.alloc (.mapIter (some mb) clock #[] clock)).heap[W.heap.size]? = some (.mapIter (some mb) clock #[] clock) := blk_new W _
  have hm0 : (W.alloc (.mapIter (some mb) clock #[] clock)).heap[mb]? = some (.map es clock) := blk_alloc hmp _
  have hJ0 : J [] (W.alloc (.mapIter (some mb) clock #[] clock)) := hJ [] W _ none h0 (World.grownBy_alloc W _ none) (fun r e => by cases e)
  clear hrg
  gi_loopw [3] (fun _ wr => ∃ (ls : List MapEntry) (seen : Array Nat), wr.heap[W.heap.size]? = some (.mapIter (some mb) clock seen clock) ∧ wr.heap[mb]? = some (.map es clock) ∧ Came es seen ls ∧ J (ls.map uk) wr) (fun _ wr => es.size - seenLen wr W.heap.size)
  case atStart => exact ⟨[], #[], hr0, hm0, Came.start es, hJ0⟩
  case round =>
    obtain ⟨ls, seen, hr, hmm, hC, hJs⟩ := hrel
    rcases run_next_at (P := Try.prog) wr 0 W.heap.size mb clock clock seen es clock hr hmm hbn.1 (Nat.le_refl _) with ⟨h0l, hnx⟩ | ⟨e, he, w1, hw1, hnx⟩
    · gi_wp2
      go_end0
      refine ⟨⟨_, rfl⟩, .inl ⟨ls.map uk, ?_, hJs⟩⟩
      have := (hC.all hbn h0l).map uk
      rwa [keys_uk hks] at this
    · have hg := iter_grown hw1 W.heap.size (.mapIter (some mb) clock (seen.push e.born) clock)
      have hlr := blk_lt hr
      have hr2 : (setBlock w1 W.heap.size (.mapIter (some mb) clock (seen.push e.born) clock)).heap[W.heap.size]? = some (.mapIter (some mb) clock (seen.push e.born) clock) := by
        have : W.heap.size < w1.heap.size := by rcases hw1 with rfl | rfl <;> exact hlr
        simp [setBlock, this]
      have hm2 : (setBlock w1 W.heap.size (.mapIter (some mb) clock (seen.push e.born) clock)).heap[mb]? = some (.map es clock) := (hg.block mb (blk_lt hmm) (fun h => by injection h with h; omega)).trans hmm
      have hC2 := hC.step he
      have hle := hC2.le
      have hin : e ∈ es.toList := hC2.sub e (by simp)
      have hen := run_entry_at (P := Try.prog) _ W.heap.size mb clock seen es clock e hr2 hm2 hin hbn.2
      have hJ2 := hJ (ls.map uk) wr _ (some W.heap.size) hJs hg (fun r e => by cases e; exact ⟨Nat.le_refl _, _, hr, rfl⟩)
      have hk := key_uk hks hin
      rw [hk] at hnx hen
      obtain ⟨w2, hw2⟩ : ∃ w2, w2 = setBlock w1 W.heap.size (.mapIter (some mb) clock (seen.push e.born) clock) := ⟨_, rfl⟩
      rw [← hw2] at hnx hr2 hm2 hen hJ2
      clear hg hw2
      unfold kv at hnx hen
      have hJ3 : J (ls.map uk) (w2.alloc (.cells #[.int .u32 (uk e).1, .int .i64 (uk e).2] 75)) := hJ _ w2 _ none hJ2 (World.grownBy_alloc w2 _ none) (fun r e => by cases e)
      obtain ⟨fn, tmps, assign, body, hy, hR⟩ := hY (ls.map uk) (uk e) _ hJ3 (by simp at hle ⊢; omega)
      unfold kv at hy
      gi_wp2
      refine hR.mono ?_
      rintro e' W3 (⟨rfl, hJ4, hk3⟩ | ⟨rfl, hJx⟩)
      · have hr3 := hk3.same _ _ (blk_alloc hr2 _) rfl
        have hm3 := hk3.same _ _ (blk_alloc hm2 _) rfl
        have hJ5 : J ((ls ++ [e]).map uk) W3 := by rw [List.map_append]; exact hJ4
        clear hnx hen hR hy hJ2 hJ3 hJ4
        gi_wp2
        go_roundw
        case rel => exact ⟨ls ++ [e], seen.push e.born, hr3, hm3, hC2, hJ5⟩
        case measure =>
          rw [seenLen_of hr3, seenLen_of hr, Array.size_push]
          have h1 : seen.size = ls.length := by have := congrArg List.length hC.borns; simpa using this.symm
          simp at hle; omega
      · clear hnx hen hR hy hJ2 hJ3
        gi_wp2
        refine bodyPost_ret (results_none rfl _ _ _) rfl ?_
        exact ⟨⟨_, rfl⟩, .inr ⟨_, trivial, hJx⟩⟩
/-- maps.Keys hands back a value that stops where it is told to. -/
theorem keys_stops (F : Fence) (n : Nat) (h40 : F.fn 40) (hro : F.round = none) (hn : 1 ≤ n) (Bm mb clock : Nat) (es : Array MapEntry) (ks : List K) (w : World) (hBm : Bm < w.heap.size) (hm : w.cell? ⟨Bm, 0, none⟩ = some (.map (some mb))) (hmp : w.heap[mb]? = some (.map es clock)) (hbn : Born es clock) (hks : es.toList.map (·.key) = ks.map kv) :
    SeqStops F n Try.prog 40 #[.pointer (some ⟨Bm, 0, none⟩)] kv (fun ss => ss.Perm ks) (fun _ => True) ks.length w := fun l J Jx W hW hJ _ hY h0 =>
  keys_in F n h40 hro hn l Bm mb clock es ks J Jx hY W hJ ((hW.cell (p := ⟨Bm, 0, none⟩) hBm).trans hm) (blk_below hmp hW) hbn hks h0
end Go.Proofs.Ytnmfmcjgjjanfaa.Cache
