/- slices.AppendSeq over the keys. -/
import Derived.Test.YtnmfmcjgjjanfaaKeys
import Derived.RangeFuncNested
import Derived.RangeFuncLeaves
import Derived.RangeFuncBox
import Derived.RangeFuncCalls
import Derived.Shelf.Abstract
import Derived.WalkKit
namespace Go.Proofs.Ytnmfmcjgjjanfaa.Cache
open Go Go.RowKit Go.Shelf Go.Proofs.YtnmfmcjgjjanfaaW.PrintWords Go.Proofs.YtnmfmcjgjjanfaaW.PrintLast Go.Proofs.YtnmfmcjgjjanfaaW.PrintMore Go.Proofs.Ytnmfmcjgjjanfaa.Pr Go.Proofs.Ytnmfmcjgjjanfaa.Lits
set_option linter.unusedVariables false
set_option linter.unusedSimpArgs false
attribute [local go_sem] Oper.semAt_some
def kcs (k : K) : List Value := [.int .u32 k.1, .int .i64 k.2]
def rowOf (ks : List K) : List Value := ks.flatMap kcs
theorem rowOf_snoc (ks : List K) (k : K) : rowOf (ks ++ [k]) = rowOf ks ++ kcs k := by simp [rowOf]
/-- What the loop's variable holds. -/
def VarAt (Bs : Nat) (w : World) (sv : Value) (x : K) (a' : Act) (W : World) : Prop :=
  ∃ Bx, Bs < Bx ∧ W.heap[Bx]? = some (.cells #[.int .u32 x.1, .int .i64 x.2] 75 (0, 0)) ∧ a' = { tmps := #[.slice none 0 0, sv, .pointer (some ⟨Bs, 0, none⟩), undef, .slice none 0 0, .pointer (some ⟨Bx, 0, none⟩), sv, .agg #[.int .u32 x.1, .int .i64 x.2], undef, undef, undef, undef, undef], defers := [] }
set_option maxRecDepth 100000 in
set_option maxHeartbeats 1000000 in
theorem appendSeq_in (F : Fence) (n : Nat) (h39 : F.fn 39) (h40 : F.fn 40) (hro : F.round = none) (hn : 2 ≤ n) (Bm mb clock : Nat) (es : Array MapEntry) (ks : List K) (w : World) (hBm : Bm < w.heap.size) (hm : w.cell? ⟨Bm, 0, none⟩ = some (.map (some mb))) (hmp : w.heap[mb]? = some (.map es clock)) (hbn : Born es clock) (hks : es.toList.map (·.key) = ks.map kv) (hlen : ks.length ≤ 100000) :
    CallsIn F n Try.prog 39 #[.slice none 0 0, .func (.func 40) #[] #[.pointer (some ⟨Bm, 0, none⟩)]] w fun e w' => ∃ (v : Value) (ss : List K), e = .returned v ∧ ss.Perm ks ∧ w'.ownsRow w.heap.size 75 2 v ss.length (rowOf ss) ∧ Below w.heap.size w w' := by
  have h1 : 1 ≤ n := by omega
  refine callsIn_of_wp_marks Try.func39 rfl h39 ?_ hro
  simp only [Try.ntmps39, List.size_toArray, List.length_cons, List.length_nil, Nat.reduceAdd, Nat.reduceSub, Array.replicate_succ, Array.replicate_zero, List.push_toArray, List.append_toArray, List.nil_append, List.cons_append]
  gi_wp2
  have hs1 : (w.alloc (.cells #[.slice none 0 0] 68)).heap.size = w.heap.size + 1 := by simp
  have hst := keys_stops F (n - 1) h40 hro (by omega) Bm mb clock es ks (w.alloc (.cells #[.slice none 0 0] 68)) (by simp; omega) ((World.cell?_alloc_past _ _ _ hBm).trans hm) (blk_alloc hmp _) hbn hks
  refine wpIn_rangeFunc_ownH (α := K) (encs := fun x => #[kv x]) (Kp := KeepsWalks) (S := fun ss => ss.Perm ks) (Sp := fun _ => True) (N := ks.length) hro h1 (gf := 40) (lb := #[.pointer (some ⟨Bm, 0, none⟩)]) rfl h40 (enters_of Try.func40 (by kernel_rfl) rfl)
    hst walksK_t walksK_b (Below.refl _ _) (fun _ => rfl)
    (fun pre W => (∃ v, Boxed W w.heap.size 68 v ∧ W.ownsRow w.heap.size 75 2 v pre.length (rowOf pre) ∧ True) ∧ Below w.heap.size w W)
    (fun _ _ _ => False)
    (OwnFrom.and (Own.from (holdsRow_own w.heap.size w.heap.size 68 75 2 (fun pre : List K => pre.length) (fun pre => rowOf pre) (fun _ _ => True)) _) (ownFrom_below (Nat.le_refl _) (by simp)))
    (fun _ _ _ _ _ hs _ _ => hs)
    ⟨⟨_, Boxed.new w 68 _, World.ownsRow_nil _ _ _ _, trivial⟩, (Below.refl _ w).alloc (Nat.le_refl _) _⟩
    (VarAt w.heap.size w (.func (.func 40) #[] #[.pointer (some ⟨Bm, 0, none⟩)]))
    ?hAx ?assign ?body ?done ?stop
  case hAx =>
    rintro x a' s X Y row ⟨Bx, h1, h2, h3⟩ hg hr
    exact ⟨Bx, h1, (hg.block Bx (blk_lt h2) (fun e => by obtain ⟨_, o, ho, hc⟩ := hr Bx e.symm; rw [h2] at ho; cases ho; cases hc)).trans h2, h3⟩
  case assign =>
    rintro l pre x W K ⟨⟨v, hv, hrow, _⟩, hB⟩ hK
    unfold kv
    gi_wp2
    exact hK _ _ ((KeepsOthers.alloc _ _).from _) (KeepsWalks.alloc _ _) ⟨⟨v, hv.alloc _, hrow.alloc _, trivial⟩, hB.alloc hB.size _⟩ ⟨W.heap.size, hv.lt, blk_new W _, rfl⟩
  case body =>
    rintro l pre x a' W hl _ ⟨⟨v, hv, hrow, _⟩, hB⟩ ⟨Bx, hBx, hX, rfl⟩ hlt
    obtain ⟨i0, hi, hz0, hz1, hz2⟩ := info_parts info75
    have hvc := hv.cell
    have hvf := hv.frozen
    have x0 : W.cell? ⟨Bx, 0, none⟩ = some (.int .u32 x.1) := (blk_cell hX 0).trans rfl
    have x1 : W.cell? ⟨Bx, 1, none⟩ = some (.int .i64 x.2) := (blk_cell hX 1).trans rfl
    have hcc : ∀ (j : Nat) (u : Value), (kcs x)[j]? = some u → (W.alloc (.cells #[.int .u32 x.1, .int .i64 x.2] 75)).cell? ((⟨W.heap.size, 0, none⟩ : Addr).add j) = some u := by
      intro j u hu
      rw [add_plain, blk_cell (blk_new W _) j, ← Array.getElem?_toList]
      exact hu
    have h1c : ∀ u ∈ kcs x, u.oneCell' = true := by
      intro u hu
      simp only [kcs, List.mem_cons, List.not_mem_nil, or_false] at hu
      rcases hu with rfl | rfl <;> rfl
    have hb1 : pre.length + 1 ≤ maxLen := by unfold maxLen; omega
    have hb2 : (pre.length + 1) * 16 ≤ 140737488355328 := by omega
    have hb3 : w.heap.size ≤ (W.alloc (.cells #[.int .u32 x.1, .int .i64 x.2] 75)).heap.size := by have := hB.size; simp; omega
    have hkn : (kcs x).length = 1 * 2 := rfl
    gi_wp2_with (gi_at_builtin; refine wpListIn_append_own _ rfl _ _ 68 rfl w.heap.size 75 i0 (.agg #[.int .u32 0, .int .i64 0]) 2 16 Try.underlying68 hi hz0 hz1 hz2 rfl (by decide) _ _ _ rfl (hrow.alloc _) ⟨W.heap.size, 0, none⟩ 1 1 (kcs x) rfl hkn hcc h1c hb1 hb2 hb3 ?_; intro v' w1 hown' hgrow _; obtain ⟨g', cap', rfl⟩ := ownsRow_succ hown'; obtain ⟨hv1, hv2, hr2, hk2, hb4⟩ := hv.appended (by decide) hrow hB.size (Nat.le_refl _) hown' hgrow; have hc1 := hv1.cell; have hf1 := hv1.frozen)
    exact ⟨hk2.from _, ⟨hk2.size, fun k o hk ho => hk2.same k o hk (Obj.not_cells_of_walk ho)⟩, ⟨_, hv2, by rw [rowOf_snoc, List.length_append]; exact hr2, trivial⟩, hB.trans hb4⟩
  case done =>
    rintro D ys W hD hS ⟨⟨v, hv, hrow, _⟩, hB⟩ hK
    have hvc := hv.cell
    gi_wp2
    refine ⟨by simp, .inl ⟨_, _, rfl, run_takeDeferred hK, ?_⟩⟩
    exact ⟨_, results_tmp rfl _ _ _, v, ys, rfl, hS, ownsRow_putObj hrow _ hK rfl, hB.trans (belowK_b (w := w) (Nat.le_refl _) W D _ _ (by simp at hD; omega) hK rfl rfl)⟩
  case stop =>
    rintro D c pre W _ _ h _
    exact h.elim
end Go.Proofs.Ytnmfmcjgjjanfaa.Cache
