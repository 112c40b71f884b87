/- sync.Once's slow road: the function is called, then the two deferred calls. -/
import Derived.Test.YtnmfmcjgjjanfaaOnce
import Derived.Laws.NewBlocks
import Derived.Lib.Hide
namespace Go.Proofs.Ytnmfmcjgjjanfaa.Once
open Go Go.RowKit
set_option linter.unusedVariables false
set_option linter.unusedSimpArgs false
theorem load42 (a : Addr) (x : Int) (w : World) (h : w.cell? a = some (.int .u32 x)) (hx : x = 0 ∨ x = 1) : Calls Try.prog 42 #[.pointer (some a)] w fun e w' => e = .returned (.bool (x != 0)) ∧ w = w' := by
  have hl := run_call_load (P := Try.prog) Try.func44 (by kernel_rfl) (by kernel_rfl) (by kernel_rfl) .u32 (by kernel_rfl) h
  rcases hx with rfl | rfl
  all_goals
    go_enter Try.func42, Try.ntmps42
    go_wp2
    go_ret
    exact ⟨rfl, rfl⟩
theorem clos36 (b : Nat) (pl : Addr) (x4 : Value) (w : World) (hp : w.cell? pl = some (.pointer (some ⟨b, 0, none⟩))) (hpl : pl.block < w.heap.size) (hbl : b < w.heap.size) (h3 : w.cell? ⟨b, 4, none⟩ = some x4) (f3 : w.frozen? ⟨b, 4, none⟩ = false) :
    Calls Try.prog 36 #[.pointer (some pl)] w fun e w' => e = .returned (.tuple #[]) ∧ w' = (w.setCell ⟨b, 4, none⟩ (.map (some w.heap.size))).alloc (.map #[] 0) := by
  have hmm := @run_makeMap Try.prog
  have a4 : (w.alloc (.map #[] 0)).cell? ⟨b, 4, none⟩ = some x4 := by rw [World.cell?_alloc_past _ _ _ hbl]; exact h3
  have z4 : (w.alloc (.map #[] 0)).frozen? ⟨b, 4, none⟩ = false := by rw [World.frozen?_alloc_past _ _ _ hbl]; exact f3
  go_enter Try.func36, Try.ntmps36
  go_wp2
  go_end0
  exact ⟨rfl, rfl⟩
set_option maxRecDepth 100000 in
set_option maxHeartbeats 1600000 in
theorem slow_any (b : Nat) (pl : Addr) (hpb : ¬ b = pl.block) (x4 : Value) (w : World) (hp : w.cell? pl = some (.pointer (some ⟨b, 0, none⟩))) (hpl : pl.block < w.heap.size) (hbl : b < w.heap.size)
    (h0 : w.cell? ⟨b, 1, none⟩ = some (.int .u32 0)) (h1 : w.cell? ⟨b, 2, none⟩ = some (.int .i32 0)) (h3 : w.cell? ⟨b, 4, none⟩ = some x4)
    (f0 : w.frozen? ⟨b, 1, none⟩ = false) (f1 : w.frozen? ⟨b, 2, none⟩ = false) (f3 : w.frozen? ⟨b, 4, none⟩ = false) :
    Calls Try.prog 43 #[.pointer (some ⟨b, 1, none⟩), .func (.func 36) #[] #[.pointer (some pl)]] w fun e w' => e = .returned (.tuple #[]) ∧
      w' = ((((w.setCell ⟨b, 2, none⟩ (.int .i32 1)).setCell ⟨b, 4, none⟩ (.map (some (w.setCell ⟨b, 2, none⟩ (.int .i32 1)).heap.size))).alloc (.map #[] 0)).drew.setCell ⟨b, 1, none⟩ (.int .u32 1)).setCell ⟨b, 2, none⟩ (.int .i32 0) := by
  have hl := run_call_load (P := Try.prog) Try.func44 (by kernel_rfl) (by kernel_rfl) (by kernel_rfl) .u32 (by kernel_rfl) (w := w.setCell ⟨b, 2, none⟩ (.int .i32 1)) (a := ⟨b, 1, none⟩) (x := 0) ((World.cell?_setCell_other _ ⟨b, 2, none⟩ ⟨b, 1, none⟩ _ (by simp)).trans h0)
  have hp1 : (w.setCell ⟨b, 2, none⟩ (.int .i32 1)).cell? pl = some (.pointer (some ⟨b, 0, none⟩)) := (World.cell?_setCell_other _ ⟨b, 2, none⟩ pl _ (fun h => hpb (by rw [← h]))).trans hp
  have h31 : (w.setCell ⟨b, 2, none⟩ (.int .i32 1)).cell? ⟨b, 4, none⟩ = some x4 := (World.cell?_setCell_other _ ⟨b, 2, none⟩ ⟨b, 4, none⟩ _ (by simp)).trans h3
  have hnot : ∀ (x : Bool) (w : World), (Op.unary .not (.bool x)).run Try.prog w = .ok (.bool (!x)) w := fun _ _ => rfl
  have hmm := @run_makeMap Try.prog
  go_enter_defers Try.func43, Try.ntmps43
  go_wp2_with (go_at_call 45; refine (lock_free ⟨b, 2, none⟩ _ (by go_simp) (by go_simp)).mono ?_; rintro e w' ⟨rfl, rfl⟩)
  refine (load42 ⟨b, 1, none⟩ 0 _ ((World.cell?_setCell_other _ ⟨b, 2, none⟩ ⟨b, 1, none⟩ _ (by simp)).trans h0) (Or.inl rfl)).mono ?_
  rintro e w' ⟨rfl, rfl⟩
  have h0z : ((0 : Int) != 0) = false := rfl
  rw [h0z]
  have CL := clos36 b pl x4 (w.setCell ⟨b, 2, none⟩ (.int .i32 1)) hp1 (by simpa using hpl) (by simpa using hbl) h31 (by simpa using f3)
  obtain ⟨w1, hw1⟩ : ∃ w1, w1 = w.setCell ⟨b, 2, none⟩ (.int .i32 1) := ⟨_, rfl⟩
  have c11 : w1.cell? ⟨b, 1, none⟩ = some (.int .u32 0) := by rw [hw1]; exact (World.cell?_setCell_other _ ⟨b, 2, none⟩ ⟨b, 1, none⟩ _ (by simp)).trans h0
  have c12 : w1.cell? ⟨b, 2, none⟩ = some (.int .i32 1) := by rw [hw1]; exact World.cell?_setCell_same w _ _ h1
  have c14 : w1.cell? ⟨b, 4, none⟩ = some x4 := by rw [hw1]; exact h31
  have z11 : w1.frozen? ⟨b, 1, none⟩ = false := by rw [hw1]; simpa using f0
  have z12 : w1.frozen? ⟨b, 2, none⟩ = false := by rw [hw1]; simpa using f1
  have z14 : w1.frozen? ⟨b, 4, none⟩ = false := by rw [hw1]; simpa using f3
  have hb1 : b < w1.heap.size := by rw [hw1]; simpa using hbl
  rw [← hw1] at CL ⊢
  have HW1 := Lib.hid hw1
  clear hw1
  clear hl hp1 h31 h0 h1 h3 f0 f1 f3 hp hbl hpl h0z hpb
  go_wp2_with (go_at_call 36; refine CL.mono ?_; rintro e w' ⟨rfl, rfl⟩)
  go_wp2
  refine leaves_cons (f := 47) (args := #[.pointer (some ⟨b, 1, none⟩), .bool true]) (by simp) (by simp [go_sem]) ?_
  have d1 : ((w1.setCell ⟨b, 4, none⟩ (.map (some w1.heap.size))).alloc (.map #[] 0)).cell? ⟨b, 1, none⟩ = some (.int .u32 0) := by
    rw [World.cell?_alloc_past _ _ _ (by simpa using hb1), World.cell?_setCell_other _ ⟨b, 4, none⟩ ⟨b, 1, none⟩ _ (by simp)]; exact c11
  have e1 : ((w1.setCell ⟨b, 4, none⟩ (.map (some w1.heap.size))).alloc (.map #[] 0)).frozen? ⟨b, 1, none⟩ = false := by
    rw [World.frozen?_alloc_past _ _ _ (by simpa using hb1), World.frozen?_setCell]; exact z11
  have d2 : ((w1.setCell ⟨b, 4, none⟩ (.map (some w1.heap.size))).alloc (.map #[] 0)).cell? ⟨b, 2, none⟩ = some (.int .i32 1) := by
    rw [World.cell?_alloc_past _ _ _ (by simpa using hb1), World.cell?_setCell_other _ ⟨b, 4, none⟩ ⟨b, 2, none⟩ _ (by simp)]; exact c12
  have e2 : ((w1.setCell ⟨b, 4, none⟩ (.map (some w1.heap.size))).alloc (.map #[] 0)).frozen? ⟨b, 2, none⟩ = false := by
    rw [World.frozen?_alloc_past _ _ _ (by simpa using hb1), World.frozen?_setCell]; exact z12
  refine (store_deferred ⟨b, 1, none⟩ (.int .u32 0) .returning _ d1 e1).mono ?_
  rintro e u' w'' ⟨rfl, rfl, rfl⟩
  refine leaves_cons (f := 46) (args := #[.pointer (some ⟨b, 2, none⟩)]) (by simp [settle]) (by simp [go_sem]) ?_
  refine (unlock_deferred ⟨b, 2, none⟩ _ _ ?_ ?_).mono ?_
  · rw [World.cell?_setCell_other _ ⟨b, 1, none⟩ ⟨b, 2, none⟩ _ (by simp), World.cell?_drew]; exact d2
  · rw [World.frozen?_setCell, World.frozen?_drew]; exact e2
  rintro e u' w'' ⟨rfl, rfl, rfl⟩
  simp [Leaves, settle, results, Try.results43]
  rw [HW1.out]
  simp
end Go.Proofs.Ytnmfmcjgjjanfaa.Once
