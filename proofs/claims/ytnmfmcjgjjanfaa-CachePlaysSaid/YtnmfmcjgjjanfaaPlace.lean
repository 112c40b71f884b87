/- The cache's block; what 'place' answers, the first time and later. -/
import Derived.Test.YtnmfmcjgjjanfaaSlow
import Derived.Test.YtnmfmcjgjjanfaaWWords
import Derived.WalkKit
namespace Go.Proofs.Ytnmfmcjgjjanfaa.Cache
open Go Go.RowKit Go.Proofs.YtnmfmcjgjjanfaaW.PrintWords Go.Proofs.Ytnmfmcjgjjanfaa.Once
set_option linter.unusedVariables false
set_option linter.unusedSimpArgs false
/-- All but the blocks of S is as it was; new blocks. -/
structure Mod (S : Nat → Prop) (w w' : World) : Prop where
  os : w'.os = w.os
  tape : w'.tape = w.tape
  output : w'.output = w.output
  size : w.heap.size ≤ w'.heap.size
  keep : ∀ k, k < w.heap.size → ¬ S k → w'.heap[k]? = w.heap[k]?
section
variable {S : Nat → Prop} {w w1 w2 : World}
theorem Mod.refl (S : Nat → Prop) (w : World) : Mod S w w := ⟨rfl, rfl, rfl, Nat.le_refl _, fun _ _ _ => rfl⟩
theorem Mod.trans (h : Mod S w w1) (k : Mod S w1 w2) : Mod S w w2 :=
  ⟨k.os.trans h.os, k.tape.trans h.tape, k.output.trans h.output, Nat.le_trans h.size k.size, fun j hj hs => (k.keep j (Nat.lt_of_lt_of_le hj h.size) hs).trans (h.keep j hj hs)⟩
theorem Mod.of_below (h : Below w.heap.size w w1) : Mod S w w1 := ⟨h.os, h.tape, h.output, h.size, fun k hk _ => h.block k hk⟩
theorem Mod.set (h : Mod S w w1) {p : Addr} (hp : S p.block ∨ w.heap.size ≤ p.block) (u : Value) : Mod S w (w1.setCell p u) :=
  ⟨h.os, h.tape, h.output, by simpa [World.setCell] using h.size, fun k hk hs => (Below.heap_setCell w1 p u k (fun e => hp.elim (fun h => hs (e ▸ h)) (fun h => by omega))).trans (h.keep k hk hs)⟩
theorem Mod.alloc (h : Mod S w w1) (o : Obj) : Mod S w (w1.alloc o) := h.trans (Mod.of_below ((Below.refl _ _).alloc (Nat.le_refl _) _))
theorem Mod.drew (h : Mod S w w1) : Mod S w w1.drew := ⟨h.os, h.tape, h.output, h.size, h.keep⟩
theorem Mod.mono {S' : Nat → Prop} (h : Mod S w w1) (hs : ∀ k, S k → S' k) : Mod S' w w1 := ⟨h.os, h.tape, h.output, h.size, fun k hk hn => h.keep k hk (fun h => hn (hs k h))⟩
theorem Mod.blk (h : Mod S w w1) {g : Nat} {o : Obj} (hg : w.heap[g]? = some o) (hn : ¬ S g) : w1.heap[g]? = some o := (h.keep g (Array.getElem?_eq_some_iff.1 hg).1 hn).trans hg
/-- What stands below B stands. -/
theorem Mod.below {B : Nat} {W : World} (h : Mod S w w1) (hb : Below B W w) (hs : ∀ k, S k → B ≤ k) (hB : B ≤ w.heap.size) : Below B W w1 :=
  ⟨h.os.trans hb.os, h.tape.trans hb.tape, h.output.trans hb.output, Nat.le_trans hb.size h.size, fun k hk => (h.keep k (by omega) (fun hk2 => by have := hs k hk2; omega)).trans (hb.block k hk)⟩
end
/-- The cache's block. -/
def cb (most d : Int) (mv ov : Value) (h m : Int) : Obj := .cells #[.int .i64 most, .int .u32 d, .int .i32 0, .int .u32 0, mv, ov, .int .i64 h, .int .i64 m] 73 (0, 0)
section
variable {b : Nat} {most : Int} {mv ov : Value} {h m : Int} {w : World}
set_option maxRecDepth 100000 in
theorem do_first (pl : Addr) (hpb : ¬ b = pl.block) (hp : w.cell? pl = some (.pointer (some ⟨b, 0, none⟩))) (hpl : pl.block < w.heap.size) (hb : w.heap[b]? = some (cb most 0 mv ov h m)) :
    Calls Try.prog 35 #[.pointer (some ⟨b, 1, none⟩), .func (.func 36) #[] #[.pointer (some pl)]] w fun e w' => e = .returned (.tuple #[]) ∧
      w' = ((((w.setCell ⟨b, 2, none⟩ (.int .i32 1)).setCell ⟨b, 4, none⟩ (.map (some w.heap.size))).alloc (.map #[] 0)).drew.setCell ⟨b, 1, none⟩ (.int .u32 1)).setCell ⟨b, 2, none⟩ (.int .i32 0) := by
  have c1 : w.cell? ⟨b, 1, none⟩ = some (.int .u32 0) := (blk_cell hb 1).trans rfl
  have SL := slow_any b pl hpb mv w hp hpl (blk_lt hb) c1 ((blk_cell hb 2).trans rfl) ((blk_cell hb 4).trans rfl) (blk_frozen hb 1) (blk_frozen hb 2) (blk_frozen hb 4)
  have L := load42 ⟨b, 1, none⟩ 0 w c1 (Or.inl rfl)
  have h0z : ((0 : Int) != 0) = false := rfl
  rw [h0z] at L
  rw [show (w.setCell ⟨b, 2, none⟩ (.int .i32 1)).heap.size = w.heap.size by simp [World.setCell]] at SL
  obtain ⟨wz, hwz⟩ : ∃ wz, wz = ((((w.setCell ⟨b, 2, none⟩ (.int .i32 1)).setCell ⟨b, 4, none⟩ (.map (some w.heap.size))).alloc (.map #[] 0)).drew.setCell ⟨b, 1, none⟩ (.int .u32 1)).setCell ⟨b, 2, none⟩ (.int .i32 0) := ⟨_, rfl⟩
  rw [← hwz] at SL ⊢
  have HZ := Lib.hid hwz
  clear hwz c1 hp hb
  go_enter Try.func35, Try.ntmps35
  go_wp2_with (first | (go_at_call 42; refine L.mono ?_; rintro e w' ⟨rfl, rfl⟩) | (go_at_call 43; refine SL.mono ?_; rintro e w' ⟨rfl, rfl⟩))
  go_end0
  exact ⟨rfl, rfl⟩
set_option maxRecDepth 100000 in
theorem do_done (fv : Value) (hb : w.heap[b]? = some (cb most 1 mv ov h m)) :
    Calls Try.prog 35 #[.pointer (some ⟨b, 1, none⟩), fv] w fun e w' => e = .returned (.tuple #[]) ∧ w = w' := by
  have c1 : w.cell? ⟨b, 1, none⟩ = some (.int .u32 1) := (blk_cell hb 1).trans rfl
  have L := load42 ⟨b, 1, none⟩ 1 w c1 (Or.inr rfl)
  have h0z : ((1 : Int) != 0) = true := rfl
  rw [h0z] at L
  clear c1 hb
  go_enter Try.func35, Try.ntmps35
  go_wp2_with (first | (go_at_call 42; refine L.mono ?_; rintro e w' ⟨rfl, rfl⟩))
  go_end0
  exact ⟨rfl, rfl⟩
/-- What place leaves. -/
def PlaceE (b : Nat) (most : Int) (ov : Value) (h m : Int) (w : World) (e : Ending) (w' : World) : Prop :=
  ∃ mb, e = .returned (.map (some mb)) ∧ w'.heap[b]? = some (cb most 1 (.map (some mb)) ov h m) ∧ w'.heap[mb]? = some (.map #[] 0) ∧ w.heap.size ≤ mb ∧ Mod (· = b) w w'
set_option maxRecDepth 100000 in
theorem place_first (hb : w.heap[b]? = some (cb most 0 (.map none) ov h m)) : Calls Try.prog 26 #[.pointer (some ⟨b, 0, none⟩)] w (PlaceE b most ov h m w) := by
  have hlt := blk_lt hb
  have hb1 : (w.alloc (.cells #[.pointer (some ⟨b, 0, none⟩)] 27)).heap[b]? = some (cb most 0 (.map none) ov h m) := blk_alloc hb _
  have hp : (w.alloc (.cells #[.pointer (some ⟨b, 0, none⟩)] 27)).cell? ⟨w.heap.size, 0, none⟩ = some (.pointer (some ⟨b, 0, none⟩)) := (blk_cell (blk_new w _) 0).trans rfl
  have DO := do_first ⟨w.heap.size, 0, none⟩ (by show ¬ b = w.heap.size; omega) hp (by simp) hb1
  obtain ⟨wz, hwz⟩ : ∃ wz, wz = (((((w.alloc (.cells #[.pointer (some ⟨b, 0, none⟩)] 27)).setCell ⟨b, 2, none⟩ (.int .i32 1)).setCell ⟨b, 4, none⟩ (.map (some (w.alloc (.cells #[.pointer (some ⟨b, 0, none⟩)] 27)).heap.size))).alloc (.map #[] 0)).drew.setCell ⟨b, 1, none⟩ (.int .u32 1)).setCell ⟨b, 2, none⟩ (.int .i32 0) := ⟨_, rfl⟩
  have hz : (w.alloc (.cells #[.pointer (some ⟨b, 0, none⟩)] 27)).heap.size = w.heap.size + 1 := by simp
  have zb : wz.heap[b]? = some (cb most 1 (.map (some (w.heap.size + 1))) ov h m) := by
    rw [hwz, hz]
    exact blk_put (blk_put (blk_drew (blk_alloc (blk_put (blk_put hb1 2 _ rfl) 4 _ rfl) _)) 1 _ rfl) 2 _ rfl
  have zp : wz.heap[w.heap.size]? = some (.cells #[.pointer (some ⟨b, 0, none⟩)] 27 (0, 0)) := by
    rw [hwz]
    exact blk_far (blk_far (blk_drew (blk_alloc (blk_far (blk_far (blk_new w _) (by show w.heap.size ≠ b; omega) _) (by show w.heap.size ≠ b; omega) _) _)) (by show w.heap.size ≠ b; omega) _) (by show w.heap.size ≠ b; omega) _
  have zm : wz.heap[w.heap.size + 1]? = some (.map #[] 0) := by
    rw [hwz]
    have hn := heap_alloc_new (((w.alloc (.cells #[.pointer (some ⟨b, 0, none⟩)] 27)).setCell ⟨b, 2, none⟩ (.int .i32 1)).setCell ⟨b, 4, none⟩ (.map (some (w.alloc (.cells #[.pointer (some ⟨b, 0, none⟩)] 27)).heap.size))) (.map #[] 0)
    rw [show (((w.alloc (.cells #[.pointer (some ⟨b, 0, none⟩)] 27)).setCell ⟨b, 2, none⟩ (.int .i32 1)).setCell ⟨b, 4, none⟩ (.map (some (w.alloc (.cells #[.pointer (some ⟨b, 0, none⟩)] 27)).heap.size))).heap.size = w.heap.size + 1 by simp [World.setCell]] at hn
    rw [Below.heap_setCell _ _ _ _ (by show w.heap.size + 1 ≠ b; omega), Below.heap_setCell _ _ _ _ (by show w.heap.size + 1 ≠ b; omega)]
    exact hn
  have zk : Mod (· = b) w wz := by
    rw [hwz]
    exact (((((((Mod.refl (· = b) w).alloc _).set (Or.inl rfl) _).set (Or.inl rfl) _).alloc _).drew).set (Or.inl rfl) _).set (Or.inl rfl) _
  rw [← hwz] at DO
  have c0 : wz.cell? ⟨w.heap.size, 0, none⟩ = some (.pointer (some ⟨b, 0, none⟩)) := (blk_cell zp 0).trans rfl
  have c4 : wz.cell? ⟨b, 4, none⟩ = some (.map (some (w.heap.size + 1))) := (blk_cell zb 4).trans rfl
  have ZB := Lib.hid zb
  have ZM := Lib.hid zm
  have ZK := Lib.hid zk
  clear hwz zb zm zk zp hb1 hb hlt hz
  go_enter Try.func26, Try.ntmps26
  go_wp2_with (first | (go_at_call 35; refine DO.mono ?_; rintro e w' ⟨rfl, rfl⟩))
  go_ret
  exact ⟨w.heap.size + 1, rfl, ZB.out, ZM.out, by omega, ZK.out⟩
set_option maxRecDepth 100000 in
theorem place_done (mb : Nat) (hb : w.heap[b]? = some (cb most 1 (.map (some mb)) ov h m)) : Calls Try.prog 26 #[.pointer (some ⟨b, 0, none⟩)] w fun e w' => e = .returned (.map (some mb)) ∧ Below w.heap.size w w' := by
  have hlt := blk_lt hb
  have hb1 : (w.alloc (.cells #[.pointer (some ⟨b, 0, none⟩)] 27)).heap[b]? = some (cb most 1 (.map (some mb)) ov h m) := blk_alloc hb _
  have DO := do_done (.func (.func 36) #[] #[.pointer (some ⟨w.heap.size, 0, none⟩)]) hb1
  have c0 : (w.alloc (.cells #[.pointer (some ⟨b, 0, none⟩)] 27)).cell? ⟨w.heap.size, 0, none⟩ = some (.pointer (some ⟨b, 0, none⟩)) := (blk_cell (blk_new w _) 0).trans rfl
  have c4 : (w.alloc (.cells #[.pointer (some ⟨b, 0, none⟩)] 27)).cell? ⟨b, 4, none⟩ = some (.map (some mb)) := (blk_cell hb1 4).trans rfl
  clear hb hb1 hlt
  go_enter Try.func26, Try.ntmps26
  go_wp2_with (first | (go_at_call 35; refine DO.mono ?_; rintro e w' ⟨rfl, rfl⟩))
  go_ret
  exact ⟨rfl, (Below.refl _ _).alloc (Nat.le_refl _) _⟩
end
end Go.Proofs.Ytnmfmcjgjjanfaa.Cache
