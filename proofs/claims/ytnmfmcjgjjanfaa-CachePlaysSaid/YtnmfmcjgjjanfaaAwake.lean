/- awake. -/
import Derived.Test.YtnmfmcjgjjanfaaHas
import Derived.Test.YtnmfmcjgjjanfaaI1
namespace Go.Proofs.Ytnmfmcjgjjanfaa.Cache
open Go Go.RowKit Go.Proofs.YtnmfmcjgjjanfaaW.PrintWords Go.Proofs.YtnmfmcjgjjanfaaW.PrintLast Go.Proofs.YtnmfmcjgjjanfaaW.PrintMore Go.Proofs.Ytnmfmcjgjjanfaa.Pr Go.Proofs.Ytnmfmcjgjjanfaa.Lits
set_option linter.unusedVariables false
set_option linter.unusedSimpArgs false
theorem eqA25 (d : Nat) (w : World) (x0 y0 x1 y1 x2 y2 x3 y3 x4 y4 : Int) :
    (Op.equalIn (d + 2) 25 (.agg #[.int .i64 x0, .int .i64 x1, .int .i64 x2, .int .i64 x3, .int .u32 x4]) (.agg #[.int .i64 y0, .int .i64 y1, .int .i64 y2, .int .i64 y3, .int .u32 y4])).run Try.prog w = .ok (x0 == y0 && (x1 == y1 && (x2 == y2 && (x3 == y3 && (x4 == y4))))) w := by
  refine eqA_of Try.underlying25 (by kernel_rfl) ?_
  refine eqf_cons (by rfl) (by go_simp; rfl) (by go_simp; rfl) (by go_simp) ?_
  refine eqf_cons (by rfl) (by go_simp; rfl) (by go_simp; rfl) (by go_simp) ?_
  refine eqf_cons (by rfl) (by go_simp; rfl) (by go_simp; rfl) (by go_simp) ?_
  refine eqf_cons (by rfl) (by go_simp; rfl) (by go_simp; rfl) (by go_simp) ?_
  exact eqf_last (by rfl) (by go_simp; rfl) (by go_simp; rfl) (by go_simp)
attribute [local go_sem high] eqA25
def n8 : S25 := ⟨8, 0, 0, 0, 0⟩
theorem a1 : putL 2 [] (4, 0) 1 [n8] = [((4, 0), 1, [n8])] := rfl
theorem a2 : idx [((4, 0), 1, [n8])] (4, 0) = some 0 := rfl
theorem a3 : del [((4, 0), 1, [n8])] (4, 0) = [] := rfl
set_option maxRecDepth 100000 in
set_option maxHeartbeats 1000000 in
theorem awake (w : World) : Calls Try.prog 8 #[] w fun e w' => e = .returned (.bool true) ∧ Below w.heap.size w w' := by
  have hu27 := Try.underlying27
  go_enter Try.func8, Try.ntmps8
  go_wp2_with (go_at_call 9; refine (new_ok 2 _ (by decide) (by decide)).mono ?_; rintro e w1 ⟨rfl, h1⟩; have H1 : Hid (Has (fun x => x = w.heap.size) w.heap.size 2 0 [] 0 0 w1 ∧ Below w.heap.size w w1) := (by rw [h1]; exact Lib.hid ⟨Has.new 2 w rfl, (Below.refl _ _).alloc (Nat.le_refl _) _⟩); clear h1)
  obtain ⟨L, hL⟩ : ∃ L, L = w1.heap.size := ⟨_, rfl⟩
  obtain ⟨w2, hw2⟩ : ∃ w2, w2 = w1.alloc (.cells #[.int .i64 8, .int .i64 0, .int .i64 0, .int .i64 0, .int .u32 0] 25) := ⟨_, rfl⟩
  have hb2 : Below w1.heap.size w1 w2 := by rw [hw2]; exact (Below.refl _ _).alloc (Nat.le_refl _) _
  have hl2 : w2.heap[L]? = some (.cells (ncs n8) 25 (0, 0)) := by rw [hL, hw2]; exact blk_new w1 _
  have hz2 : w2.heap.size = L + 1 := by rw [hw2, hL]; simp
  have HS2 : Has (fun x => x = w.heap.size ∨ L < x) w.heap.size 2 0 [] 0 0 w2 := (H1.out.1.below hb2).mono (fun x hx => .inl hx)
  have hu2 : Up (fun x => x = w.heap.size ∨ L < x) w2 := fun x hx => .inr (by omega)
  have hlw : w.heap.size < L := by obtain ⟨F, f1, f2⟩ := H1.out.1; have := (f1 _ f2.own).2; omega
  have B2 := Lib.hid (below_step H1.out.2 hb2)
  have HU2 := Lib.hid hu2
  have PUT : Calls Try.prog 10 #[.pointer (some ⟨w.heap.size, 0, none⟩), .int .u32 4, .int .i64 0, .int .u32 1, .slice (some ⟨L, 0, none⟩) 1 1] w2 fun e w' => e = .returned (.tuple #[]) ∧ Has (fun x => x = w.heap.size ∨ L < x) w.heap.size 2 1 (putL 2 [] (4, 0) 1 [n8]) 0 0 w' ∧ Mod (fun x => x = w.heap.size ∨ L < x) w2 w' := put_has (4, 0) 1 (some ⟨L, 0, none⟩) 1 [n8] HS2 hu2 (by decide) (fun w' hm => one_C n8 ((hm.keep L (blk_lt hl2) (by omega)).trans hl2)) (by decide) (by decide)
  rw [a1] at PUT
  rw [← hw2, ← hL]
  clear hw2 hL hb2 HS2 hu2 hl2 H1
  refine PUT.mono ?_
  clear PUT
  rintro e w3 ⟨rfl, h3, m3⟩
  have G3 : Calls Try.prog 11 #[.pointer (some ⟨w.heap.size, 0, none⟩), .int .u32 4, .int .i64 0, .int .u32 1] w3 fun e w' => ∃ v s, e = .returned (.tuple #[v, .bool true]) ∧ w3.heap.size ≤ s ∧ s ≤ w'.heap.size ∧ Kd.R k25 25 w' s (fun _ => True) v [n8] ∧ Has (fun x => (x = w.heap.size ∨ L < x) ∧ x < s) w.heap.size 2 1 [((4, 0), 1, [n8])] (0 + 1) 0 w' ∧ Mod (fun x => x = w.heap.size ∨ L < x) w3 w' := get_hit_has (4, 0) 1 0 (4, 0) [n8] a2 rfl (by decide) h3 (HU2.out.mono m3.size) (by decide) (by decide) (by decide) (by decide) (by decide)
  have M3 := Lib.hid m3
  clear h3 m3
  go_wp2_with fail
  refine G3.mono ?_
  clear G3
  rintro e w4 ⟨v, s, rfl, s0, s1, hv, h4, m4⟩
  obtain ⟨g, cap, cur, rfl, g0, _, g1, g2⟩ := R25_head hv
  have HV := Lib.hid (And.intro g0 (And.intro g1 g2))
  have H4 := Lib.hid h4
  have M4 := Lib.hid m4
  have S4 := Lib.hid (And.intro s0 s1)
  clear hv h4 m4 g0 g1 g2 s0 s1
  go_wp2_with fail
  have S3 := M3.out.size
  have G5 : Calls Try.prog 11 #[.pointer (some ⟨w.heap.size, 0, none⟩), .int .u32 4, .int .i64 0, .int .u32 2] w4 fun e w' => e = .returned (.tuple #[.slice none 0 0, .bool false]) ∧ Has (fun x => ((x = w.heap.size ∨ L < x) ∧ x < s) ∨ w4.heap.size ≤ x) w.heap.size 2 1 (del [((4, 0), 1, [n8])] (4, 0)) (0 + 1) (0 + 1) w' ∧ Mod (fun x => ((x = w.heap.size ∨ L < x) ∧ x < s) ∨ w4.heap.size ≤ x) w4 w' :=
    get_miss_has (4, 0) 2 0 (4, 0) 1 [n8] a2 rfl (by decide) (H4.out.mono (fun x hx => .inl hx)) (fun x hx => .inr hx) (by decide) (by decide) (by decide) (by decide) (by decide)
  refine G5.mono ?_
  clear G5
  rintro e w5 ⟨rfl, h5, m5⟩
  rw [a3] at h5
  have hg5 : w5.heap[g]? = some (.cells cur 25 (0, 0)) := (m5.keep g (blk_lt HV.out.2.1) (by have := HV.out.1; have := blk_lt HV.out.2.1; omega)).trans HV.out.2.1
  have c0 : w5.cell? ⟨g, 0, none⟩ = some (.int .i64 8) := (blk_cell hg5 0).trans HV.out.2.2.1
  have c1 : w5.cell? ⟨g, 1, none⟩ = some (.int .i64 0) := (blk_cell hg5 1).trans HV.out.2.2.2.1
  have c2 : w5.cell? ⟨g, 2, none⟩ = some (.int .i64 0) := (blk_cell hg5 2).trans HV.out.2.2.2.2.1
  have c3 : w5.cell? ⟨g, 3, none⟩ = some (.int .i64 0) := (blk_cell hg5 3).trans HV.out.2.2.2.2.2.1
  have c4 : w5.cell? ⟨g, 4, none⟩ = some (.int .u32 0) := (blk_cell hg5 4).trans HV.out.2.2.2.2.2.2
  have hB : Below w.heap.size w w5 := by
    have b3 := M3.out.below B2.out (fun x hx => by omega) (by have := B2.out.size; omega)
    have b4 := M4.out.below b3 (fun x hx => by omega) b3.size
    exact m5.below b4 (fun x hx => by have := b4.size; omega) b4.size
  have HB := Lib.hid hB
  have LE := len_has h5
  have HI := hits_has h5
  have MI := misses_has h5
  clear h5 m5 hg5 hB
  go_wp2_with (first | (go_at_call 15; refine LE.mono ?_; rintro e w6 ⟨rfl, rfl⟩) | (go_at_call 14; refine HI.mono ?_; rintro e w6 ⟨rfl, rfl⟩) | (go_at_call 18; refine MI.mono ?_; rintro e w6 ⟨rfl, rfl⟩))
  go_ret
  exact ⟨rfl, HB.out⟩
end Go.Proofs.Ytnmfmcjgjjanfaa.Cache
