/- The reference's reader of bytes. -/
import Derived.Test.YtcjaepmecihmlaaRefNum
import Derived.Lib.Hide
namespace Go.Proofs.Ytcjaepmecihmlaa.RefRd
open Go Go.RowKit Go.Proofs.Ytcjaepmecihmlaa.Img Go.Proofs.YtcjaepmecihmlaaW.PrintWords Go.Proofs.YtcjaepmecihmlaaW.PrintLast Go.Proofs.YtcjaepmecihmlaaW.PrintMore Go.Proofs.Ytcjaepmecihmlaa.ImgPure
set_option linter.unusedVariables false
set_option linter.unusedSimpArgs false
abbrev qes_0 : Array Bool := #[false, false, false, false, false, false, false, false, false, false, false, false, false, false, false, false, false, false, false]
abbrev qes_1 : Array Bool := #[false, true, false, false, false, false, false, false, false, false, false, false, false, false, false, false, false, false, false]
abbrev qes_2 : Array Bool := #[false, true, true, false, false, false, false, false, false, false, false, false, false, false, false, false, false, false, false]
abbrev qes_3 : Array Bool := #[false, true, true, true, false, false, false, false, false, false, false, false, false, false, false, false, false, false, false]
abbrev qes_4 : Array Bool := #[false, true, true, true, false, true, false, false, false, false, false, false, false, false, false, false, false, false, false]
abbrev qes_5 : Array Bool := #[false, true, true, true, false, true, true, false, false, false, false, false, false, false, false, false, false, false, false]
abbrev qes_6 : Array Bool := #[false, true, true, true, false, true, true, true, false, false, false, false, false, false, false, false, false, false, false]
abbrev qes_7 : Array Bool := #[false, true, true, true, false, true, true, true, false, true, false, false, false, false, false, false, false, false, false]
abbrev qes_8 : Array Bool := #[false, true, true, true, false, true, true, true, false, true, true, false, false, false, false, false, false, false, false]
abbrev qes_9 : Array Bool := #[false, true, true, true, false, true, true, true, false, true, true, true, false, false, false, false, false, false, false]
abbrev qes_10 : Array Bool := #[false, true, true, true, false, true, true, true, false, true, true, true, false, true, false, false, false, false, false]
abbrev qes_11 : Array Bool := #[false, true, true, true, false, true, true, true, false, true, true, true, false, true, true, false, false, false, false]
abbrev qes_12 : Array Bool := #[false, true, true, true, true, true, true, true, false, true, true, true, false, true, true, false, false, false, false]
abbrev qes_13 : Array Bool := #[false, true, true, true, true, true, true, true, true, true, true, true, false, true, true, false, false, false, false]
abbrev qes_14 : Array Bool := #[false, true, true, true, true, true, true, true, true, true, true, true, true, true, true, false, false, false, false]
abbrev qes_15 : Array Bool := #[false, true, true, true, true, true, true, true, true, true, true, true, true, true, true, true, false, false, false]
abbrev qes_16 : Array Bool := #[false, true, true, true, true, true, true, true, true, true, true, true, true, true, true, true, true, false, false]
abbrev qes_17 : Array Bool := #[true, true, true, true, true, true, true, true, true, true, true, true, true, true, true, true, true, false, false]
abbrev qes_18 : Array Bool := #[true, true, true, true, true, true, true, true, true, true, true, true, true, true, true, true, true, true, false]
abbrev qes_19 : Array Bool := #[true, true, true, true, true, true, true, true, true, true, true, true, true, true, true, true, true, true, true]
theorem info5 : (Try.prog.info? 5).map (fun i => (i.zero, i.size, i.bytes)) = some (some (.int .u8 0), 1, 1) := by kernel_rfl
theorem lit5 (w : World) : Kd.R (Kd.int .u8) 5 (w.alloc (.cells #[] 5)) w.heap.size (fun _ => True) (.slice (some ⟨w.heap.size, 0, none⟩) 0 0) [] :=
  ⟨fun _ _ => trivial, [], by simpa using World.ownsRow_lit (base := w.heap.size) (e := 5) (size := (Kd.int .u8).sz) w #[] 0 (Nat.le_refl _) (by decide) (by simp), Reps.none _ _⟩
section
variable {α : Type} {R : α → List Value → Prop} {size : Nat} {A : Option Addr} {xs : List α} {w : World}
theorem zg1 {ad : Addr} {c : Nat} (h : zb1 R size w (some ad) xs.length xs) (m n : Nat) (hm : m + n ≤ xs.length) (hc : xs.length ≤ c) : zb1 R size w (if c = m then some ad else some (ad.add (m * size))) n ((xs.drop m).take n) := by
  have hl : ((xs.drop m).take n).length = n := by rw [List.length_take, List.length_drop]; omega
  refine ⟨hl, by have := h.2.1; omega, fun hp => ?_⟩
  obtain ⟨ad', e, hcell⟩ := h.2.2 (by omega); cases e; rw [if_neg (by omega)]
  refine ⟨ad.add (m * size), rfl, fun j p hj => ?_⟩
  rw [List.getElem?_take] at hj
  split at hj
  · rw [List.getElem?_drop] at hj
    obtain ⟨cs, h1, h2, h3⟩ := hcell (m + j) p hj
    refine ⟨cs, h1, h2, fun i u hu => ?_⟩
    rw [add_add, show m * size + (j * size + i) = (m + j) * size + i by rw [Nat.add_mul]; omega]
    exact h3 i u hu
  · cases hj
end
section
variable {w0 w : World} {g k n c : Nat} {A : Option Addr} {bad : Bool} {L : List Int}
def rdB (A : Option Addr) (L : List Int) (c k : Nat) (bad : Bool) : Obj := .cells #[.slice A L.length c, .int .i64 k, .bool bad] 62 (0, 0)
set_option maxRecDepth 100000 in
set_option maxHeartbeats 1000000 in
theorem bytes_bad (hg : w.heap[g]? = some (rdB A L c k true)) (hl : L.length ≤ 1000000) (hk : k ≤ L.length) (hn : n ≤ 1000000) :
    Calls Try.prog 28 #[.pointer (some ⟨g, 0, none⟩), .int .u32 n] w fun e w' => e = .returned (.slice none 0 0) ∧ ∃ m, w' = (w.drewN m).setCell ⟨g, 2, none⟩ (.bool true) := by
  have c0 : w.cell? ⟨g, 0, none⟩ = some (.slice A L.length c) := (zai hg 0).trans rfl; have c1 : w.cell? ⟨g, 1, none⟩ = some (.int .i64 k) := (zai hg 1).trans rfl; have c2 : w.cell? ⟨g, 2, none⟩ = some (.bool true) := (zai hg 2).trans rfl; have f2 := zah hg 2; clear hg
  go_enter Try.func28, Try.ntmps28
  go_wp2
  go_quiet (fail)
  go_wp2
  go_ret
  exact ⟨rfl, _, rfl⟩
set_option maxRecDepth 100000 in
set_option maxHeartbeats 1000000 in
theorem zhg (hg : w.heap[g]? = some (rdB A L c k false)) (hl : L.length ≤ 1000000) (hk : k ≤ L.length) (hn : n ≤ 1000000) (hs : L.length < k + n) :
    Calls Try.prog 28 #[.pointer (some ⟨g, 0, none⟩), .int .u32 n] w fun e w' => e = .returned (.slice none 0 0) ∧ ∃ m, w' = (w.drewN m).setCell ⟨g, 2, none⟩ (.bool true) := by
  have c0 : w.cell? ⟨g, 0, none⟩ = some (.slice A L.length c) := (zai hg 0).trans rfl; have c1 : w.cell? ⟨g, 1, none⟩ = some (.int .i64 k) := (zai hg 1).trans rfl; have c2 : w.cell? ⟨g, 2, none⟩ = some (.bool false) := (zai hg 2).trans rfl; have f2 := zah hg 2; have e1 : IntKind.i64.wrap ((L.length : Int) - (k : Int)) = (L.length : Int) - k := IntWalk.i64_in _ (by omega); have e2 : IntKind.i64.wrap (n : Int) = (n : Int) := IntWalk.i64_in _ (by omega)
  have b1 : (L.length : Int) - (k : Int) < (n : Int) := by omega
  clear hg
  go_enter Try.func28, Try.ntmps28
  go_wp2
  go_quiet (fail)
  go_wp2
  go_ret
  exact ⟨rfl, _, rfl⟩
set_option maxRecDepth 100000 in
set_option maxHeartbeats 1000000 in
theorem zh8 (ad : Addr) (hg : w.heap[g]? = some (rdB (some ad) L c k false)) (hr : Kd.C (Kd.int .u8) w0 (some ad) L.length L) (hB : Below w0.heap.size w0 w) (hge : w0.heap.size ≤ g) (hc : L.length ≤ c) (hl : L.length ≤ 1000000) (hn : k + n ≤ L.length) :
    Calls Try.prog 28 #[.pointer (some ⟨g, 0, none⟩), .int .u32 n] w fun e w' => ∃ v, e = .returned v ∧ Kd.R (Kd.int .u8) 5 w' w.heap.size (fun _ => True) v ((L.drop k).take n) ∧ w'.heap[g]? = some (rdB (some ad) L c (k + n) false) ∧ Below w0.heap.size w0 w' ∧ zbq w w' g none := by
  have c0 : w.cell? ⟨g, 0, none⟩ = some (.slice (some ad) L.length c) := (zai hg 0).trans rfl; have c1 : w.cell? ⟨g, 1, none⟩ = some (.int .i64 k) := (zai hg 1).trans rfl; have c2 : w.cell? ⟨g, 2, none⟩ = some (.bool false) := (zai hg 2).trans rfl; have e1 : IntKind.i64.wrap ((L.length : Int) - (k : Int)) = (L.length : Int) - k := IntWalk.i64_in _ (by omega); have e2 : IntKind.i64.wrap (n : Int) = (n : Int) := IntWalk.i64_in _ (by omega); have e3 : IntKind.i64.wrap ((k : Int) + (n : Int)) = (k : Int) + n := IntWalk.i64_in _ (by omega)
  have b1 : ¬ (L.length : Int) - (k : Int) < (n : Int) := by omega
  have d1 : decide ((L.length : Int) - (k : Int) < (n : Int)) = false := decide_eq_false b1; have HG := Lib.hid (And.intro hg (And.intro hB hge)); have HR0 := Lib.hid hr; clear hg hr hB hge
  go_enter Try.func28, Try.ntmps28
  go_wp2
  go_quiet (fail)
  go_wp2; have HW : Hid (Below w.heap.size w (w.drewN nq)) := Lib.hid (zaa (Below.refl _ _) _)
  obtain ⟨w1, hw1⟩ : ∃ w1, w1 = w.drewN nq := ⟨_, rfl⟩
  rw [← hw1] at HW ⊢; clear hw1 c0 c1 c2 e1 b1 d1; obtain ⟨hg, hB, hge⟩ := HG.out; have hz := za3 hg; have hg1 : w1.heap[g]? = some (rdB (some ad) L c k false) := zaq hg HW.out; have hz1 := za3 hg1
  have HC : Hid (∀ w', Below w1.heap.size w1 w' → w'.cell? ⟨g, 0, none⟩ = some (.slice (some ad) L.length c) ∧ w'.cell? ⟨g, 1, none⟩ = some (.int .i64 k)) :=
    Lib.hid (fun w' hb => ⟨(zai ((hb.block g hz1).trans hg1) 0).trans rfl, (zai ((hb.block g hz1).trans hg1) 1).trans rfl⟩)
  have HROW : Hid (∀ w', Below w1.heap.size w1 w' → zb1 ((Kd.int .u8).K w') 1 w' (if c = k then some ad else some (ad.add k)) n ((L.drop k).take n)) :=
    Lib.hid (fun w' hb => by have hq := zg1 (Kd.za7 HR0.out (zam hB (zam HW.out hb))) k n hn hc; rw [show k * (Kd.int .u8).sz = k from Nat.mul_one k] at hq; exact hq)
  have HEND : Hid (∀ w' v, Below w1.heap.size w1 w' → Kd.R (Kd.int .u8) 5 w' w1.heap.size (fun _ => True) v ((L.drop k).take n) →
      w'.cell? ⟨g, 1, none⟩ = some (.int .i64 k) ∧ w'.frozen? ⟨g, 1, none⟩ = false ∧ Kd.R (Kd.int .u8) 5 (w'.setCell ⟨g, 1, none⟩ (.int .i64 ((k : Int) + n))) w.heap.size (fun _ => True) v ((L.drop k).take n) ∧
      (w'.setCell ⟨g, 1, none⟩ (.int .i64 ((k : Int) + n))).heap[g]? = some (rdB (some ad) L c (k + n) false) ∧ Below w0.heap.size w0 (w'.setCell ⟨g, 1, none⟩ (.int .i64 ((k : Int) + n))) ∧ zbq w (w'.setCell ⟨g, 1, none⟩ (.int .i64 ((k : Int) + n))) g none) := by
    refine Lib.hid (fun w' v hb hv => ?_)
    have h1 : w'.heap[g]? = some (rdB (some ad) L c k false) := (hb.block g hz1).trans hg1
    refine ⟨(zai h1 1).trans rfl, zah h1 1, ?_, za8 h1 1 _ rfl, ?_, ?_⟩
    · exact Kd.R_set (Kd.zbi hv HW.out.size) h1 (by decide) 1 _
    · exact (zam hB (zam HW.out hb)).setCell hge _
    · exact (zbq.of_below (zam HW.out hb) g none).set_ 1 _
  have c00 := (HC.out _ (zce (Below.refl _ _))).1; have c01 := (HC.out _ (zce (Below.refl _ _))).2
  have b2 : (0 : Int) ≤ (k : Int) := by omega
  have b3 : (k : Int) ≤ (k : Int) + (n : Int) := by omega
  have b4 : (k : Int) + (n : Int) ≤ (c : Int) := by omega
  have b5 : ((k : Int) + (n : Int)).toNat = k + n := by omega
  have b6 : k ≤ k + n := by omega
  have b7 : k + n ≤ c := by omega
  have b8 : k ≤ c := by omega
  clear hg hB hge hz hg1 hz1
  refine zcu (n := 19) (S := fun w' => w'.cell? ⟨g, 0, none⟩ = some (.slice (some ad) L.length c) ∧ w'.cell? ⟨g, 1, none⟩ = some (.int .i64 k)) (ds := []) qes_0 (by kernel_rfl) rfl rfl ⟨c00, c01⟩ (fun hHeld => ?_)
  refine pure_ (i := 1) (N := some 29) (v := ?_) (a' := ?_) qes_1 rfl rfl (by kernel_rfl) (fun _ _ _ h => h) (Or.inl ⟨by rfl, ?_⟩) ?_ ?_
  rotate_left; (· intro w'; go_simp; with_reducible rfl); rotate_left; (· simp only [Act.put, List.setIfInBounds_toArray, List.set_cons_zero, List.set_cons_succ, i64_w, i32_w]; rfl)
  refine pure_ (i := 2) (N := some 30) (v := ?_) (a' := ?_) qes_2 rfl rfl (by kernel_rfl) (fun _ _ _ h => h) (Or.inl ⟨by rfl, ?_⟩) ?_ ?_
  rotate_left; (· intro w'; go_simp; with_reducible rfl); rotate_left; (· simp only [Act.put, List.setIfInBounds_toArray, List.set_cons_zero, List.set_cons_succ, i64_w, i32_w]; rfl)
  refine pure_ (i := 3) (N := some 31) (v := ?_) (a' := ?_) qes_3 rfl rfl (by kernel_rfl) (fun _ _ _ h => h) (Or.inl ⟨by rfl, ?_⟩) ?_ ?_
  rotate_left; (· intro w'; go_simp; with_reducible rfl); rotate_left; (· simp only [Act.put, List.setIfInBounds_toArray, List.set_cons_zero, List.set_cons_succ, i64_w, i32_w]; rfl)
  refine pure_ (i := 5) (N := some 33) (v := ?_) (a' := ?_) qes_4 rfl rfl (by kernel_rfl) (fun _ _ _ h => h) (Or.inl ⟨by rfl, ?_⟩) ?_ ?_
  rotate_left; (· intro w'; go_simp; with_reducible rfl); rotate_left; (· simp only [Act.put, List.setIfInBounds_toArray, List.set_cons_zero, List.set_cons_succ, i64_w, i32_w]; rfl)
  refine pure_ (i := 6) (N := some 34) (v := ?_) (a' := ?_) qes_5 rfl rfl (by kernel_rfl) (fun _ _ _ h => h) (Or.inl ⟨by rfl, ?_⟩) ?_ ?_
  rotate_left; (· intro w'; go_simp; with_reducible rfl); rotate_left; (· simp only [Act.put, List.setIfInBounds_toArray, List.set_cons_zero, List.set_cons_succ, i64_w, i32_w]; rfl)
  refine pure_ (i := 7) (N := some 35) (v := ?_) (a' := ?_) qes_6 rfl rfl (by kernel_rfl) (fun _ _ _ h => h) (Or.inl ⟨by rfl, ?_⟩) ?_ ?_
  rotate_left; (· intro w'; go_simp; with_reducible rfl); rotate_left; (· simp only [Act.put, List.setIfInBounds_toArray, List.set_cons_zero, List.set_cons_succ, i64_w, i32_w]; rfl)
  refine pure_ (i := 9) (N := some 37) (v := ?_) (a' := ?_) qes_7 rfl rfl (by kernel_rfl) (fun _ _ _ h => h) (Or.inl ⟨by rfl, ?_⟩) ?_ ?_
  rotate_left; (· intro w'; go_simp; with_reducible rfl); rotate_left; (· simp only [Act.put, List.setIfInBounds_toArray, List.set_cons_zero, List.set_cons_succ, i64_w, i32_w]; rfl)
  refine pure_ (i := 10) (N := some 38) (v := ?_) (a' := ?_) qes_8 rfl rfl (by kernel_rfl) (fun _ _ _ h => h) (Or.inl ⟨by rfl, ?_⟩) ?_ ?_
  rotate_left; (· intro w'; go_simp; with_reducible rfl); rotate_left; (· simp only [Act.put, List.setIfInBounds_toArray, List.set_cons_zero, List.set_cons_succ, i64_w, i32_w]; rfl)
  refine pure_ (i := 11) (N := some 39) (v := ?_) (a' := ?_) qes_9 rfl rfl (by kernel_rfl) (fun _ _ _ h => h) (Or.inl ⟨by rfl, ?_⟩) ?_ ?_
  rotate_left; (· intro w'; go_simp; with_reducible rfl); rotate_left; (· simp only [Act.put, List.setIfInBounds_toArray, List.set_cons_zero, List.set_cons_succ, i64_w, i32_w]; rfl)
  refine pure_ (i := 13) (N := some 41) (v := ?_) (a' := ?_) qes_10 rfl rfl (by kernel_rfl) (fun _ _ _ h => h) (Or.inl ⟨by rfl, ?_⟩) ?_ ?_
  rotate_left; (· intro w'; go_simp; with_reducible rfl); rotate_left; (· simp only [Act.put, List.setIfInBounds_toArray, List.set_cons_zero, List.set_cons_succ, i64_w, i32_w]; rfl)
  refine pure_ (i := 14) (N := some 42) (v := ?_) (a' := ?_) qes_11 rfl rfl (by kernel_rfl) (fun _ _ _ h => h) (Or.inl ⟨by rfl, ?_⟩) ?_ ?_
  rotate_left; (· intro w'; go_simp; with_reducible rfl); rotate_left; (· simp only [Act.put, List.setIfInBounds_toArray, List.set_cons_zero, List.set_cons_succ, i64_w, i32_w]; rfl)
  refine take_ (i := 4) (N := some 32) (v := ?_) (a' := ?_) qes_12 rfl rfl (by kernel_rfl) (fun _ _ _ h => h) (Or.inl ⟨by rfl, ?_⟩) hHeld ?_ ?_
  rotate_left; (· rintro w' ⟨s0, s1⟩; go_simp; with_reducible rfl); rotate_left; (· simp only [Act.put, List.setIfInBounds_toArray, List.set_cons_zero, List.set_cons_succ, i64_w, i32_w]; rfl)
  refine take_ (i := 8) (N := some 36) (v := ?_) (a' := ?_) qes_13 rfl rfl (by kernel_rfl) (fun _ _ _ h => h) (Or.inl ⟨by rfl, ?_⟩) hHeld ?_ ?_
  rotate_left; (· rintro w' ⟨s0, s1⟩; go_simp; with_reducible rfl); rotate_left; (· simp only [Act.put, List.setIfInBounds_toArray, List.set_cons_zero, List.set_cons_succ, i64_w, i32_w]; rfl)
  refine take_ (i := 12) (N := some 40) (v := ?_) (a' := ?_) qes_14 rfl rfl (by kernel_rfl) (fun _ _ _ h => h) (Or.inl ⟨by rfl, ?_⟩) hHeld ?_ ?_
  rotate_left; (· rintro w' ⟨s0, s1⟩; go_simp; with_reducible rfl); rotate_left; (· simp only [Act.put, List.setIfInBounds_toArray, List.set_cons_zero, List.set_cons_succ, i64_w, i32_w]; rfl)
  refine pure_ (i := 15) (N := some 43) (v := ?_) (a' := ?_) qes_15 rfl rfl (by kernel_rfl) (fun _ _ _ h => h) (Or.inl ⟨by rfl, ?_⟩) ?_ ?_
  rotate_left; (· intro w'; go_simp; with_reducible rfl); rotate_left; (· simp only [Act.put, List.setIfInBounds_toArray, List.set_cons_zero, List.set_cons_succ, i64_w, i32_w]; rfl)
  refine pure_ (i := 16) (N := some 44) (v := ?_) (a' := ?_) qes_16 rfl rfl (by kernel_rfl) (fun _ _ _ h => h) (Or.inl ⟨by rfl, ?_⟩) ?_ ?_
  rotate_left; (· intro w'; go_simp; with_reducible rfl); rotate_left; (· simp only [Act.put, List.setIfInBounds_toArray, List.set_cons_zero, List.set_cons_succ, i64_w, i32_w]; rfl)
  refine one_ (i := 0) (N := some 28) qes_17 rfl rfl (by kernel_rfl) (by decide) (fun K hK => ?_)
  refine value_ (w1 := ?_) (v := ?_) (by rfl) rfl ?_ ?_
  rotate_left 2
  · go_simp
    constructor
    · rfl
    · rfl
  obtain ⟨w2, hw2⟩ : ∃ w2, w2 = (w1.alloc (.cells #[] 5)).drew := ⟨_, rfl⟩
  have b2 : Below w1.heap.size w1 w2 := by rw [hw2]; exact zce (zab (Below.refl _ _) _)
  have r2 : Kd.R (Kd.int .u8) 5 w2 w1.heap.size (fun _ => True) (.slice (some ⟨w1.heap.size, 0, none⟩) 0 0) [] := by rw [hw2]; exact Kd.zbf (lit5 w1) (zce (Below.refl _ _))
  have H2 := Lib.hid (And.intro b2 r2); have c20 := (HC.out _ b2).1; have c21 := (HC.out _ b2).2; rw [← hw2]; clear hw2 b2 r2
  refine hK.out _ _ ⟨c20, c21⟩ (fun hHeld => ?_)
  clear hK K
  refine norm_ (a' := ?_) ?_ ?_
  rotate_left
  · show Act.put _ (some 28) _ = _
    simp only [Act.put, List.setIfInBounds_toArray, List.set_cons_zero, List.set_cons_succ, i64_w, i32_w]
    rfl
  refine one_ (i := 17) (N := some 45) qes_18 rfl rfl (by kernel_rfl) (by decide) (fun K hK => ?_)
  obtain ⟨a1, a2⟩ := H2.out
  refine Kd.zej (Kd.int .u8) (Rr := (Kd.int .u8).K w2) (w0 := w1) w1.heap.size (by rfl) (.tmp 28) (.tmp 44) 28 5 (.int .u8 0) 1 rfl Try.underlying28 info5 rfl (by decide) (by decide) (.slice (some ⟨w1.heap.size, 0, none⟩) 0 0) [] ((L.drop k).take n) _ _ _ (fun _ => True) (fun _ => False) rfl rfl a2 ?aR ?aM (fun _ h => h.elim) (fun _ _ => trivial) a1 a1.size ?aL ?_
  case aR => exact HROW.out _ a1
  case aM => exact fun y cs h => h
  case aL => simp; omega
  intro v3 w3 q1 q2 q3 q4; rw [List.nil_append] at q1
  obtain ⟨A3, n3, c3, rfl⟩ : ∃ A n c, v3 = .slice A n c := by obtain ⟨A, c, e, _⟩ := Kd.zdn q1; exact ⟨_, _, _, e⟩
  have H3 := Lib.hid (And.intro q2 q1); have c30 := (HC.out _ q2).1; have c31 := (HC.out _ q2).2; clear a1 a2 q1 q2 q3 q4 H2 c20 c21
  refine hK.out _ _ ⟨c30, c31⟩ (fun hHeld => ?_)
  clear hK K
  refine norm_ (a' := ?_) ?_ ?_
  rotate_left
  · show Act.put _ (some 45) _ = _
    simp only [Act.put, List.setIfInBounds_toArray, List.set_cons_zero, List.set_cons_succ, i64_w, i32_w]
    rfl
  refine pure_ (i := 18) (N := some 5) (v := ?_) (a' := ?_) qes_19 rfl rfl (by kernel_rfl) (fun _ _ _ h => h) (Or.inl ⟨by rfl, ?_⟩) ?_ ?_
  rotate_left; (· intro w'; go_simp; with_reducible rfl); rotate_left; (· simp only [Act.put, List.setIfInBounds_toArray, List.set_cons_zero, List.set_cons_succ, i64_w, i32_w]; rfl)
  refine done_ (by kernel_rfl) ?_

  obtain ⟨z1, z2, z3, z4, z5, z6⟩ := HEND.out _ _ H3.out.1 H3.out.2; have HF := Lib.hid (And.intro z3 (And.intro z4 (And.intro z5 z6))); clear z3 z4 z5 z6 HEND H3 c30; generalize (if c = k then some ad else some (ad.add k)) = A9; go_wp2
  go_ret
  exact ⟨_, rfl, HF.out.1, HF.out.2.1, HF.out.2.2.1, HF.out.2.2.2⟩
end
end Go.Proofs.Ytcjaepmecihmlaa.RefRd
