/- The examples of chapter 7 answer as told: the walk of PolicyKnown, whose answer is true. -/
import Derived.Test.YtlhoaejkjhdlgaaAwake
import Derived.WalkKit
import Derived.Outline
namespace Go.Proofs.Ytlhoaejkjhdlgaa.PolicyKnown
open Go Go.RowKit Go.Proofs.Ytlhoaejkjhdlgaa.PPolicyBytes Go.Proofs.YtlhoaejkjhdlgaaW.PrintWords Go.Proofs.YtlhoaejkjhdlgaaW.PrintLast Go.Proofs.YtlhoaejkjhdlgaaW.PrintMore Go.Proofs.Ytlhoaejkjhdlgaa.Reader Go.Proofs.Ytlhoaejkjhdlgaa.Get Go.Proofs.Ytlhoaejkjhdlgaa.Awake
set_option linter.unusedVariables false
set_option linter.unusedSimpArgs false
theorem flat_at {α β : Type} (enc : α → List β) (s : Nat) (hs : ∀ x, (enc x).length = s) : ∀ (xs : List α) (j i : Nat) (p : α) (u : β), xs[j]? = some p → (enc p)[i]? = some u → (xs.flatMap enc)[j * s + i]? = some u := by
  intro xs
  induction xs with
  | nil => intro j i p u h; simp at h
  | cons x xs ih =>
    intro j i p u h hu
    cases j with
    | zero =>
      have e : x = p := by simpa using h
      subst e
      have hi : i < (enc x).length := (List.getElem?_eq_some_iff.1 hu).1
      rw [List.flatMap_cons, Nat.zero_mul, Nat.zero_add, List.getElem?_append_left hi, hu]
    | succ j =>
      rw [List.flatMap_cons, List.getElem?_append_right (by rw [hs, Nat.succ_mul]; omega), hs]
      have e : (j + 1) * s + i - s = j * s + i := by rw [Nat.succ_mul]; omega
      rw [e]
      exact ih j i p u (by simpa using h) hu
/-- Structs in a block of one's own, read. -/
theorem rows_C {w : World} {g : Nat} {t : TypeId} {α : Type} {d : Kd α} (enc : α → List Value) (xs : List α) {cs : Array Value} (hs : ∀ x, (enc x).length = d.sz) (hk : ∀ x, d.K w x (enc x)) (hcs : cs.toList = xs.flatMap enc) (hn : xs.length ≤ 1000000) (h : w.heap[g]? = some (.cells cs t (0, 0))) : Kd.C d w (some ⟨g, 0, none⟩) xs.length xs := by
  refine ⟨rfl, by omega, fun _ => ⟨⟨g, 0, none⟩, rfl, fun j p hj => ⟨enc p, hs p, hk p, fun i u hu => ?_⟩⟩⟩
  rw [add_plain, blk_cell h, ← Array.getElem?_toList, hcs]
  exact flat_at enc _ hs xs j i p u hj hu
def e35 (s : S35) : List Value := [.int .i64 s.f0, .int .u32 s.f1, .int .u32 s.f2, .int .u8 s.f3]
def e37 (s : S37) : List Value := [.int .i64 s.f0, .int .i64 s.f1, .int .u8 s.f2]
theorem c35 {w : World} {g : Nat} {t : TypeId} (xs : List S35) {cs : Array Value} (hcs : cs.toList = xs.flatMap e35) (hn : xs.length ≤ 1000000) (h : w.heap[g]? = some (.cells cs t (0, 0))) : Kd.C k35 w (some ⟨g, 0, none⟩) xs.length xs :=
  rows_C e35 xs (fun _ => rfl) (fun x => k35_mk _ x) hcs hn h
theorem c37 {w : World} {g : Nat} {t : TypeId} (xs : List S37) {cs : Array Value} (hcs : cs.toList = xs.flatMap e37) (hn : xs.length ≤ 1000000) (h : w.heap[g]? = some (.cells cs t (0, 0))) : Kd.C k37 w (some ⟨g, 0, none⟩) xs.length xs :=
  rows_C e37 xs (fun _ => rfl) (fun x => k37_mk _ x) hcs hn h
theorem c_nil {α : Type} {w : World} {d : Kd α} : Kd.C d w none 0 [] := ⟨rfl, by omega, fun h => absurd h (by decide)⟩
theorem get_lit (W0 : World) (cs : Array Value) (n : Nat) (hn : W0.heap.size = n) (L : List Int) (c : Nat) (hcs : cs.toList = L.map (Value.int .u8)) (hL : Bytes L) (hc : L.length ≤ c) (hc2 : L.length ≤ 1000) :
    Calls Try.prog 10 #[.slice (some ⟨n, 0, none⟩) L.length c] (W0.alloc (.cells cs 5)) fun e w' => ∃ A1 n1 c1 A2 n2 c2, e = .returned (.tuple #[.agg #[.bool (getP L).1, .slice A1 n1 c1, .slice A2 n2 c2], .int .i64 (getP L).2.2.2]) ∧ Below W0.heap.size W0 w' := by
  subst hn
  refine (get _ L _ c hL (lit_C L hcs (by omega) (blk_new W0 _)) hc).mono ?_
  rintro e w ⟨v1, v2, rfl, hr1, hr2, hb⟩
  obtain ⟨A1, c1, rfl⟩ := Kd.R_slice hr1
  obtain ⟨A2, c2, rfl⟩ := Kd.R_slice hr2
  exact ⟨_, _, _, _, _, _, rfl, below_step (below_alloc (Below.refl _ _) _) hb⟩
theorem put_src (W0 : World) (cs : Array Value) (n : Nat) (hn : W0.heap.size = n) (xs : List S35) (c : Nat) (hcs : cs.toList = xs.flatMap e35) (hc : xs.length ≤ c) (hc2 : xs.length ≤ 1000) (r1 : List Int) (r2 : Int) (h : policy_Put.f 300 false xs [] = some (r1, r2)) :
    Calls Try.prog 11 #[.agg #[.bool false, .slice (some ⟨n, 0, none⟩) xs.length c, .slice none 0 0]] (W0.alloc (.cells cs 35)) fun e w' => ∃ A1 c1, e = .returned (.tuple #[.slice A1 r1.length c1, .int .i64 r2]) ∧ Below W0.heap.size W0 w' := by
  subst hn
  refine (policy_Put.calls 300 false _ c xs none 0 [] r1 r2 _ (c35 xs hcs (by omega) (blk_new W0 _)) hc c_nil (by decide) h).mono ?_
  rintro e w ⟨v1, rfl, hr1, hb⟩
  obtain ⟨A1, c1, rfl⟩ := Kd.R_slice hr1
  exact ⟨_, _, rfl, below_step (below_alloc (Below.refl _ _) _) hb⟩
theorem put_snk (W0 : World) (cs : Array Value) (fr : Nat × Nat) (hfr : fr = (0, 0)) (n : Nat) (hn : W0.heap.size = n) (ys : List S37) (c : Nat) (hcs : cs.toList = ys.flatMap e37) (hc : ys.length ≤ c) (hc2 : ys.length ≤ 1000) (r1 : List Int) (r2 : Int) (h : policy_Put.f 300 false [] ys = some (r1, r2)) :
    Calls Try.prog 11 #[.agg #[.bool false, .slice none 0 0, .slice (some ⟨n, 0, none⟩) ys.length c]] (W0.alloc (.cells cs 37 fr)) fun e w' => ∃ A1 c1, e = .returned (.tuple #[.slice A1 r1.length c1, .int .i64 r2]) ∧ Below W0.heap.size W0 w' := by
  subst hn; subst hfr
  refine (policy_Put.calls 300 false none 0 [] _ c ys r1 r2 _ c_nil (by decide) (c37 ys hcs (by omega) (blk_new W0 _)) hc h).mono ?_
  rintro e w ⟨v1, rfl, hr1, hb⟩
  obtain ⟨A1, c1, rfl⟩ := Kd.R_slice hr1
  exact ⟨_, _, rfl, below_step (below_alloc (Below.refl _ _) _) hb⟩
def Z33 : List S37 := List.replicate 33 ⟨0, 0, 0⟩
theorem mk33 (w : World) : (Instr.makeSlice 24 (.int .i64 33) (.int .i64 33)).run Try.prog w = .ok (.slice (some ⟨w.heap.size, 0, none⟩) 33 33) (w.alloc (.cells (Z33.flatMap e37).toArray 37)) := by kernel_rfl
theorem put_33 (W0 : World) (n : Nat) (hn : W0.heap.size = n) : Calls Try.prog 11 #[.agg #[.bool false, .slice none 0 0, .slice (some ⟨n, 0, none⟩) 33 33]] (W0.alloc (.cells (Z33.flatMap e37).toArray 37)) fun e w' => ∃ A1 c1, e = .returned (.tuple #[.slice A1 0 c1, .int .i64 1]) ∧ Below W0.heap.size W0 w' :=
  put_snk W0 _ _ rfl n hn Z33 33 rfl (by decide) (by decide) [] 1 (by decide +kernel)
def S3 : List S35 := [⟨4, 0, 9, 1⟩, ⟨2, 0, 0, 2⟩, ⟨2, 0, 0, 8⟩]
def K3 : List S37 := [⟨4, 1, 3⟩, ⟨4, 1, 1⟩, ⟨5, 0, 2⟩]
/-- The last policy of the examples: its cell at g, its rows at a and b. -/
structure At (W w : World) (g a b : Nat) : Prop where
  hg : w.heap[g]? = some (.cells #[.bool false, .slice (some ⟨a, 0, none⟩) 3 3, .slice (some ⟨b, 0, none⟩) 3 3] 26 (0, 0))
  ha : w.heap[a]? = some (.cells (S3.flatMap e35).toArray 35 (0, 0))
  hb : w.heap[b]? = some (.cells (K3.flatMap e37).toArray 37 (0, 0))
  hB : Below W.heap.size W w
theorem At.below {W w w' : World} {g a b : Nat} (h : At W w g a b) (hb : Below w.heap.size w w') : At W w' g a b := ⟨blk_below h.hg hb, blk_below h.ha hb, blk_below h.hb hb, below_step h.hB hb⟩
theorem At.cells {W w : World} {g a b : Nat} (h : At W w g a b) : w.cell? ⟨g, 0, none⟩ = some (.bool false) ∧ w.cell? ⟨g, 1, none⟩ = some (.slice (some ⟨a, 0, none⟩) 3 3) ∧ w.cell? ⟨g, 2, none⟩ = some (.slice (some ⟨b, 0, none⟩) 3 3) :=
  ⟨(blk_cell h.hg 0).trans rfl, (blk_cell h.hg 1).trans rfl, (blk_cell h.hg 2).trans rfl⟩
theorem At.mk3 {W w : World} (hB : Below W.heap.size W w) (n : Nat) (hn : w.heap.size = n) : At W (((w.alloc (.cells (S3.flatMap e35).toArray 35)).alloc (.cells (K3.flatMap e37).toArray 37)).alloc (.cells #[.bool false, .slice (some ⟨n, 0, none⟩) 3 3, .slice (some ⟨n + 1, 0, none⟩) 3 3] 26)) (n + 1 + 1) n (n + 1) := by
  subst hn
  refine ⟨?_, blk_alloc (blk_alloc (blk_new w _) _) _, ?_, below_alloc (below_alloc (below_alloc hB _) _) _⟩
  · have := blk_new ((w.alloc (.cells (S3.flatMap e35).toArray 35)).alloc (.cells (K3.flatMap e37).toArray 37)) (.cells #[.bool false, .slice (some ⟨w.heap.size, 0, none⟩) 3 3, .slice (some ⟨w.heap.size + 1, 0, none⟩) 3 3] 26)
    simpa using this
  · have := blk_alloc (blk_new (w.alloc (.cells (S3.flatMap e35).toArray 35)) (.cells (K3.flatMap e37).toArray 37)) (.cells #[.bool false, .slice (some ⟨w.heap.size, 0, none⟩) 3 3, .slice (some ⟨w.heap.size + 1, 0, none⟩) 3 3] 26)
    simpa using this
theorem At.label {W w : World} {g a b : Nat} (h : At W w g a b) (kind arg r : Int) (hf : policy_Policy_Label.f 30 false S3 K3 kind arg = some r) :
    Calls Try.prog 12 #[.agg #[.bool false, .slice (some ⟨a, 0, none⟩) 3 3, .slice (some ⟨b, 0, none⟩) 3 3], .int .i64 kind, .int .u32 arg] w fun e w' => e = .returned (.int .u8 r) ∧ At W w' g a b := by
  refine (policy_Policy_Label.calls 30 false _ 3 S3 _ 3 K3 kind arg r w (c35 S3 rfl (by decide) h.ha) (by decide) (c37 K3 rfl (by decide) h.hb) (by decide) hf).mono ?_
  rintro e w' ⟨rfl, hb⟩
  exact ⟨rfl, h.below hb⟩
theorem At.hits {W w : World} {g a b : Nat} (h : At W w g a b) (kind n l : Int) (r : List Int) (hf : policy_Policy_Hits.f 30 false S3 K3 kind n l = some r) :
    Calls Try.prog 14 #[.agg #[.bool false, .slice (some ⟨a, 0, none⟩) 3 3, .slice (some ⟨b, 0, none⟩) 3 3], .int .i64 kind, .int .i64 n, .int .u8 l] w fun e w' => ∃ A c, e = .returned (.slice A r.length c) ∧ r.length ≤ c ∧ Kd.C (Kd.int .i64) w' A r.length r ∧ At W w' g a b := by
  refine (policy_Policy_Hits.calls 30 false _ 3 S3 _ 3 K3 kind n l r w (c35 S3 rfl (by decide) h.ha) (by decide) (c37 K3 rfl (by decide) h.hb) (by decide) hf).mono ?_
  rintro e w' ⟨v, rfl, hr, hb⟩
  obtain ⟨A, c, rfl, le, C⟩ := Kd.R_reads hr
  exact ⟨A, c, rfl, le, C, h.below hb⟩
theorem At.places {W w : World} {g a b : Nat} (h : At W w g a b) (L : List Int) (A : Option Addr) (c : Nat) (hl : L.length ≤ c) (hC : Kd.C (Kd.int .i64) w A L.length L) (cs : Array Value) (hcs : cs.toList = L.map (Value.int .i64)) (hL : L.length ≤ 1000) (n : Nat) (hn : w.heap.size = n) (hf : tincturelaw7_places.f 30 L L = some true) :
    Calls Try.prog 13 #[.slice A L.length c, .slice (some ⟨n, 0, none⟩) L.length L.length] (w.alloc (.cells cs 3)) fun e w' => e = .returned (.bool true) ∧ At W w' g a b := by
  subst hn
  have hal := below_alloc (Below.refl w.heap.size w) (Obj.cells cs 3)
  refine (tincturelaw7_places.calls 30 A c L (some ⟨w.heap.size, 0, none⟩) L.length L true _ (Kd.C_below hC hal) hl (lit_C L hcs (by omega) (blk_new w _)) (by omega) hf).mono ?_
  rintro e w' ⟨rfl, hd⟩
  exact ⟨rfl, h.below (below_step hal hd.below)⟩
set_option maxHeartbeats 4000000 in
set_option maxRecDepth 100000 in
theorem walk (W : World) : Calls Try.prog 3 #[] W fun e w' => e = .returned (.bool true) ∧ Below W.heap.size W w' := by
  go_enter Try.func3, Try.ntmps3
  go_wp2_with fail
  refine (Awake.awake _).mono ?_
  rintro e w1 ⟨rfl, hb⟩
  have HB := Aside0.mk hb; clear hb
  go_wp2_with fail
  refine (get _ [] none 0 (by intro x hx; simp at hx) c_nil (by decide)).mono ?_
  rintro e w2 ⟨v1, v2, rfl, hr1, hr2, hb⟩
  have e0 : getP [] = (false, [], [], 3) := by rw [getP, if_neg (by decide +kernel)]
  rw [e0] at hr1 hr2
  rw [e0]
  obtain ⟨A1, c1, hv1⟩ := Kd.R_slice hr1
  obtain ⟨A2, c2, hv2⟩ := Kd.R_slice hr2
  subst hv1; subst hv2
  have HC2 := Aside0.mk (below_step HB.out hb)
  clear hr1 hr2 hb HB e0
  go_wp2_with fail
  refine (get_lit _ _ _ (by simp) [84, 80, 49, 2, 0, 0] 6 rfl (by intro x hx; simp at hx; omega) (by decide) (by decide)).mono ?_
  rintro e w3 ⟨A1, n1, c1, A2, n2, c2, rfl, hb⟩
  have e0 : (getP [84, 80, 49, 2, 0, 0]).1 = false ∧ (getP [84, 80, 49, 2, 0, 0]).2.2.2 = 3 := by rw [getP, if_neg (by decide +kernel)]; exact ⟨rfl, rfl⟩
  rw [e0.1, e0.2]
  have HC3 := Aside0.mk (below_step (by repeat (first | exact HC2.out | apply below_alloc)) hb)
  clear hb e0 HC2
  go_wp2_with fail
  refine (get_lit _ _ _ (by simp) [84, 80, 49, 0, 0, 0, 0] 7 rfl (by intro x hx; simp at hx; omega) (by decide) (by decide)).mono ?_
  rintro e w4 ⟨A1, n1, c1, A2, n2, c2, rfl, hb⟩
  have e0 : (getP [84, 80, 49, 0, 0, 0, 0]).1 = false ∧ (getP [84, 80, 49, 0, 0, 0, 0]).2.2.2 = 3 := by rw [getP, if_neg (by decide +kernel)]; exact ⟨rfl, rfl⟩
  rw [e0.1, e0.2]
  have HC4 := Aside0.mk (below_step (by repeat (first | exact HC3.out | apply below_alloc)) hb)
  clear hb e0 HC3
  go_wp2_with fail
  refine (put_src _ _ _ (by simp) [⟨1, 3, 0, 0⟩] _ rfl (by decide) (by decide) [] 1 (by decide +kernel)).mono ?_
  rintro e w5 ⟨A1, c1, rfl, hb⟩
  have HC5 := Aside0.mk (below_step (by repeat (first | exact HC4.out | apply below_alloc)) hb)
  clear hb HC4
  go_wp2_with fail
  refine (put_src _ _ _ (by simp) [⟨4, 4294967295, 2, 1⟩] _ rfl (by decide) (by decide) [] 1 (by decide +kernel)).mono ?_
  rintro e w6 ⟨A1, c1, rfl, hb⟩
  have HC6 := Aside0.mk (below_step (by repeat (first | exact HC5.out | apply below_alloc)) hb)
  clear hb HC5
  go_wp2_with fail
  refine (put_src _ _ _ (by simp) [⟨4, 4294967295, 1, 1⟩] _ rfl (by decide) (by decide) [84, 80, 49, 0, 1, 4, 255, 255, 255, 255, 1, 0, 0, 0, 1, 0] 0 (by decide +kernel)).mono ?_
  rintro e w7 ⟨A1, c1, rfl, hb⟩
  have HC7 := Aside0.mk (below_step (by repeat (first | exact HC6.out | apply below_alloc)) hb)
  clear hb HC6
  go_wp2_with fail
  refine (put_snk _ _ _ rfl _ (by simp) [⟨4, 7, 1⟩] _ rfl (by decide) (by decide) [] 1 (by decide +kernel)).mono ?_
  rintro e w8 ⟨A1, c1, rfl, hb⟩
  have HC8 := Aside0.mk (below_step (by repeat (first | exact HC7.out | apply below_alloc)) hb)
  clear hb HC7
  go_wp2_with fail
  refine (put_snk _ _ _ rfl _ (by simp) [⟨2, 1, 1⟩] _ rfl (by decide) (by decide) [] 1 (by decide +kernel)).mono ?_
  rintro e w9 ⟨A1, c1, rfl, hb⟩
  have HC9 := Aside0.mk (below_step (by repeat (first | exact HC8.out | apply below_alloc)) hb)
  clear hb HC8
  have mk := mk33
  go_wp2_with fail
  clear mk
  refine (put_33 _ _ (by simp)).mono ?_
  rintro e w10 ⟨A1, c1, rfl, hb⟩
  have HC10 := Aside0.mk (below_step (by repeat (first | exact HC9.out | apply below_alloc)) hb)
  clear hb HC9
  have q := At.mk3 HC10.out _ rfl
  have H10 := Aside0.mk q
  have hu26 := Try.underlying26
  obtain ⟨q0, q1, q2⟩ := H10.out.cells
  clear q
  go_wp2_with fail
  refine (H10.out.label 4 3 0 (by decide +kernel)).mono ?_
  rintro e w11 ⟨rfl, h⟩
  have H11 := Aside0.mk h
  clear h q0 q1 q2 H10
  obtain ⟨q0, q1, q2⟩ := H11.out.cells
  go_wp2_with fail
  refine (H11.out.label 2 77 10 (by decide +kernel)).mono ?_
  rintro e w12 ⟨rfl, h⟩
  have H12 := Aside0.mk h
  clear h q0 q1 q2 H11
  obtain ⟨q0, q1, q2⟩ := H12.out.cells
  go_wp2_with fail
  refine (H12.out.hits 4 1 2 [0] (by decide +kernel)).mono ?_
  rintro e w13 ⟨A13, c13, rfl, le, C, h⟩
  have H13 := Aside0.mk h; have LE13 := Aside0.mk le; have CC13 := Aside0.mk C
  clear h le C q0 q1 q2 H12
  obtain ⟨q0, q1, q2⟩ := H13.out.cells
  go_wp2_with fail
  refine (H13.out.places [0] A13 c13 LE13.out CC13.out _ rfl (by decide) _ rfl (by decide +kernel)).mono ?_
  rintro e w14 ⟨rfl, h⟩
  have H14 := Aside0.mk h
  clear h q0 q1 q2 H13 LE13 CC13
  obtain ⟨q0, q1, q2⟩ := H14.out.cells
  go_wp2_with fail
  refine (H14.out.hits 4 1 1 [0, 1] (by decide +kernel)).mono ?_
  rintro e w15 ⟨A15, c15, rfl, le, C, h⟩
  have H15 := Aside0.mk h; have LE15 := Aside0.mk le; have CC15 := Aside0.mk C
  clear h le C q0 q1 q2 H14
  obtain ⟨q0, q1, q2⟩ := H15.out.cells
  go_wp2_with fail
  refine (H15.out.places [0, 1] A15 c15 LE15.out CC15.out _ rfl (by decide) _ rfl (by decide +kernel)).mono ?_
  rintro e w16 ⟨rfl, h⟩
  have H16 := Aside0.mk h
  clear h q0 q1 q2 H15 LE15 CC15
  obtain ⟨q0, q1, q2⟩ := H16.out.cells
  go_wp2_with fail
  refine (H16.out.hits 4 0 255 [] (by decide +kernel)).mono ?_
  rintro e w17 ⟨A17, c17, rfl, le, C, h⟩
  have H17 := Aside0.mk h; have LE17 := Aside0.mk le; have CC17 := Aside0.mk C
  clear h le C q0 q1 q2 H16
  obtain ⟨q0, q1, q2⟩ := H17.out.cells
  go_wp2_with fail
  refine (H17.out.hits 5 9 2 [2] (by decide +kernel)).mono ?_
  rintro e w18 ⟨A18, c18, rfl, le, C, h⟩
  have H18 := Aside0.mk h; have LE18 := Aside0.mk le; have CC18 := Aside0.mk C
  clear h le C q0 q1 q2 H17
  obtain ⟨q0, q1, q2⟩ := H18.out.cells
  go_wp2_with fail
  refine (H18.out.places [2] A18 c18 LE18.out CC18.out _ rfl (by decide) _ rfl (by decide +kernel)).mono ?_
  rintro e w19 ⟨rfl, h⟩
  have H19 := Aside0.mk h
  clear h q0 q1 q2 H18 LE18 CC18
  obtain ⟨q0, q1, q2⟩ := H19.out.cells
  go_wp2
  go_ret
  exact ⟨rfl, H19.out.hB⟩
end Go.Proofs.Ytlhoaejkjhdlgaa.PolicyKnown
