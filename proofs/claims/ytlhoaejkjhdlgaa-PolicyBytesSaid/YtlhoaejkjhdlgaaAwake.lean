/- What the document tells of an empty policy and of a source: the walk of awake, whose answer is true. -/
import Derived.Test.YtlhoaejkjhdlgaaGet
import Derived.Test.YtlhoaejkjhdlgaaPut
import Derived.Test.YtlhoaejkjhdlgaaPPolicyBytesx5
import Derived.WalkKit
import Derived.Outline
namespace Go.Proofs.Ytlhoaejkjhdlgaa.Awake
open Go Go.RowKit Go.Proofs.Ytlhoaejkjhdlgaa.PPolicyBytes Go.Proofs.YtlhoaejkjhdlgaaW.PrintWords Go.Proofs.YtlhoaejkjhdlgaaW.PrintLast Go.Proofs.YtlhoaejkjhdlgaaW.PrintMore Go.Proofs.Ytlhoaejkjhdlgaa.Reader Go.Proofs.Ytlhoaejkjhdlgaa.Get
set_option linter.unusedVariables false
set_option linter.unusedSimpArgs false
/-- Numbers in a block of one's own, read. -/
theorem lit_C {w : World} {g : Nat} {t : TypeId} {k : IntKind} (xs : List Int) {cs : Array Value} (hcs : cs.toList = xs.map (Value.int k)) (hn : xs.length ≤ 9223372036854775807) (h : w.heap[g]? = some (.cells cs t (0, 0))) : Kd.C (Kd.int k) w (some ⟨g, 0, none⟩) xs.length xs := by
  refine ⟨rfl, hn, fun _ => ⟨⟨g, 0, none⟩, rfl, fun j p hj => ⟨[.int k p], rfl, rfl, fun i u hu => ?_⟩⟩⟩
  have hi : i = 0 := by
    have := (List.getElem?_eq_some_iff.1 hu).1
    simp at this; omega
  subst hi
  have hu' : u = .int k p := by simpa using hu.symm
  subst hu'
  show w.cell? ((⟨g, 0, none⟩ : Addr).add (j * 1 + 0)) = _
  rw [add_plain, blk_cell h, Nat.mul_one, Nat.add_zero, ← Array.getElem?_toList, hcs, List.getElem?_map, hj]
  rfl
/-- One struct in a block of one's own, read. -/
theorem one_C {w : World} {g : Nat} {t : TypeId} {α : Type} {d : Kd α} (x : α) {cs : Array Value} (hs : cs.size = d.sz) (hk : d.K w x cs.toList) (h : w.heap[g]? = some (.cells cs t (0, 0))) : Kd.C d w (some ⟨g, 0, none⟩) 1 [x] := by
  refine ⟨rfl, by omega, fun _ => ⟨⟨g, 0, none⟩, rfl, fun j p hj => ⟨cs.toList, by simpa using hs, ?_, fun i u hu => ?_⟩⟩⟩
  · have hj0 : j = 0 := by
      have := (List.getElem?_eq_some_iff.1 hj).1
      simp at this; omega
    subst hj0
    have : x = p := by simpa using hj
    rw [← this]; exact hk
  · have hj0 : j = 0 := by
      have := (List.getElem?_eq_some_iff.1 hj).1
      simp at this; omega
    subst hj0
    rw [Nat.zero_mul, Nat.zero_add, add_plain, blk_cell h, ← Array.getElem?_toList]
    exact hu
def S1 : List S35 := [⟨1, 3, 0, 4⟩]
def K1 : List S37 := [⟨1, 0, 6⟩]
set_option maxHeartbeats 4000000 in
set_option maxRecDepth 100000 in
theorem awake (W : World) : Calls Try.prog 9 #[] W fun e w' => e = .returned (.bool true) ∧ Below W.heap.size W w' := by
  go_enter Try.func9, Try.ntmps9
  go_wp2_with fail
  have g1 : Kd.C (Kd.int .u8) (W.alloc (.cells #[.int .u8 84, .int .u8 80, .int .u8 49, .int .u8 0, .int .u8 0, .int .u8 0] 5)) (some ⟨W.heap.size, 0, none⟩) 6 [84, 80, 49, 0, 0, 0] := lit_C [84, 80, 49, 0, 0, 0] rfl (by decide) (blk_new W _)
  refine (get _ [84, 80, 49, 0, 0, 0] (some ⟨W.heap.size, 0, none⟩) 6 (by intro x hx; simp at hx; omega) g1 (by decide)).mono ?_
  rintro e w1 ⟨v1, v2, rfl, hr1, hr2, hb⟩
  have e0 : getP [84, 80, 49, 0, 0, 0] = (false, [], [], 0) := by
    have hp : isP [84, 80, 49, 0, 0, 0] := by decide +kernel
    rw [getP, if_pos hp]; rfl
  rw [e0] at hr1 hr2
  rw [e0]
  obtain ⟨A1, c1, hv1⟩ := Kd.R_slice hr1
  obtain ⟨A2, c2, hv2⟩ := Kd.R_slice hr2
  subst hv1; subst hv2
  have HB := Aside0.mk (below_step (below_alloc (Below.refl W.heap.size W) (.cells #[.int .u8 84, .int .u8 80, .int .u8 49, .int .u8 0, .int .u8 0, .int .u8 0] 5)) (below_step (Below.refl _ _) hb))
  clear hr1 hr2 hb g1 e0
  go_wp2_with fail
  have b1 : ((((w1.alloc (Obj.cells #[Value.bool false, Value.slice A1 0 c1, Value.slice A2 0 c2] 26)).alloc (Obj.cells #[Value.int IntKind.i64 1, Value.int IntKind.u32 3, Value.int IntKind.u32 0, Value.int IntKind.u8 4] 35)).alloc (Obj.cells #[Value.int IntKind.i64 1, Value.int IntKind.i64 0, Value.int IntKind.u8 6] 37)).alloc (Obj.cells #[Value.bool false, Value.slice (some { block := w1.heap.size + 1, off := 0 }) 1 1, Value.slice (some { block := w1.heap.size + 1 + 1, off := 0 }) 1 1] 26)).heap[w1.heap.size]? = some (.cells #[Value.bool false, Value.slice A1 0 c1, Value.slice A2 0 c2] 26 (0, 0)) := blk_alloc (blk_alloc (blk_alloc (blk_new w1 _) _) _) _
  have b2 : ((((w1.alloc (Obj.cells #[Value.bool false, Value.slice A1 0 c1, Value.slice A2 0 c2] 26)).alloc (Obj.cells #[Value.int IntKind.i64 1, Value.int IntKind.u32 3, Value.int IntKind.u32 0, Value.int IntKind.u8 4] 35)).alloc (Obj.cells #[Value.int IntKind.i64 1, Value.int IntKind.i64 0, Value.int IntKind.u8 6] 37)).alloc (Obj.cells #[Value.bool false, Value.slice (some { block := w1.heap.size + 1, off := 0 }) 1 1, Value.slice (some { block := w1.heap.size + 1 + 1, off := 0 }) 1 1] 26)).heap[w1.heap.size + 1]? = some (.cells #[Value.int IntKind.i64 1, Value.int IntKind.u32 3, Value.int IntKind.u32 0, Value.int IntKind.u8 4] 35 (0, 0)) := by
    have := blk_alloc (blk_alloc (blk_new (w1.alloc (Obj.cells #[Value.bool false, Value.slice A1 0 c1, Value.slice A2 0 c2] 26)) (Obj.cells #[Value.int IntKind.i64 1, Value.int IntKind.u32 3, Value.int IntKind.u32 0, Value.int IntKind.u8 4] 35)) (Obj.cells #[Value.int IntKind.i64 1, Value.int IntKind.i64 0, Value.int IntKind.u8 6] 37)) (Obj.cells #[Value.bool false, Value.slice (some { block := w1.heap.size + 1, off := 0 }) 1 1, Value.slice (some { block := w1.heap.size + 1 + 1, off := 0 }) 1 1] 26)
    simpa using this
  have b3 : ((((w1.alloc (Obj.cells #[Value.bool false, Value.slice A1 0 c1, Value.slice A2 0 c2] 26)).alloc (Obj.cells #[Value.int IntKind.i64 1, Value.int IntKind.u32 3, Value.int IntKind.u32 0, Value.int IntKind.u8 4] 35)).alloc (Obj.cells #[Value.int IntKind.i64 1, Value.int IntKind.i64 0, Value.int IntKind.u8 6] 37)).alloc (Obj.cells #[Value.bool false, Value.slice (some { block := w1.heap.size + 1, off := 0 }) 1 1, Value.slice (some { block := w1.heap.size + 1 + 1, off := 0 }) 1 1] 26)).heap[w1.heap.size + 1 + 1]? = some (.cells #[Value.int IntKind.i64 1, Value.int IntKind.i64 0, Value.int IntKind.u8 6] 37 (0, 0)) := by
    have := blk_alloc (blk_new ((w1.alloc (Obj.cells #[Value.bool false, Value.slice A1 0 c1, Value.slice A2 0 c2] 26)).alloc (Obj.cells #[Value.int IntKind.i64 1, Value.int IntKind.u32 3, Value.int IntKind.u32 0, Value.int IntKind.u8 4] 35)) (Obj.cells #[Value.int IntKind.i64 1, Value.int IntKind.i64 0, Value.int IntKind.u8 6] 37)) (Obj.cells #[Value.bool false, Value.slice (some { block := w1.heap.size + 1, off := 0 }) 1 1, Value.slice (some { block := w1.heap.size + 1 + 1, off := 0 }) 1 1] 26)
    simpa using this
  have b4 : ((((w1.alloc (Obj.cells #[Value.bool false, Value.slice A1 0 c1, Value.slice A2 0 c2] 26)).alloc (Obj.cells #[Value.int IntKind.i64 1, Value.int IntKind.u32 3, Value.int IntKind.u32 0, Value.int IntKind.u8 4] 35)).alloc (Obj.cells #[Value.int IntKind.i64 1, Value.int IntKind.i64 0, Value.int IntKind.u8 6] 37)).alloc (Obj.cells #[Value.bool false, Value.slice (some { block := w1.heap.size + 1, off := 0 }) 1 1, Value.slice (some { block := w1.heap.size + 1 + 1, off := 0 }) 1 1] 26)).heap[w1.heap.size + 1 + 1 + 1]? = some (.cells #[Value.bool false, Value.slice (some { block := w1.heap.size + 1, off := 0 }) 1 1, Value.slice (some { block := w1.heap.size + 1 + 1, off := 0 }) 1 1] 26 (0, 0)) := by
    have := blk_new (((w1.alloc (Obj.cells #[Value.bool false, Value.slice A1 0 c1, Value.slice A2 0 c2] 26)).alloc (Obj.cells #[Value.int IntKind.i64 1, Value.int IntKind.u32 3, Value.int IntKind.u32 0, Value.int IntKind.u8 4] 35)).alloc (Obj.cells #[Value.int IntKind.i64 1, Value.int IntKind.i64 0, Value.int IntKind.u8 6] 37)) (Obj.cells #[Value.bool false, Value.slice (some { block := w1.heap.size + 1, off := 0 }) 1 1, Value.slice (some { block := w1.heap.size + 1 + 1, off := 0 }) 1 1] 26)
    simpa using this
  have b5 := below_alloc (below_alloc (below_alloc (below_alloc HB.out (Obj.cells #[Value.bool false, Value.slice A1 0 c1, Value.slice A2 0 c2] 26)) (Obj.cells #[Value.int IntKind.i64 1, Value.int IntKind.u32 3, Value.int IntKind.u32 0, Value.int IntKind.u8 4] 35)) (Obj.cells #[Value.int IntKind.i64 1, Value.int IntKind.i64 0, Value.int IntKind.u8 6] 37)) (Obj.cells #[Value.bool false, Value.slice (some { block := w1.heap.size + 1, off := 0 }) 1 1, Value.slice (some { block := w1.heap.size + 1 + 1, off := 0 }) 1 1] 26)
  generalize ((((w1.alloc (Obj.cells #[Value.bool false, Value.slice A1 0 c1, Value.slice A2 0 c2] 26)).alloc (Obj.cells #[Value.int IntKind.i64 1, Value.int IntKind.u32 3, Value.int IntKind.u32 0, Value.int IntKind.u8 4] 35)).alloc (Obj.cells #[Value.int IntKind.i64 1, Value.int IntKind.i64 0, Value.int IntKind.u8 6] 37)).alloc (Obj.cells #[Value.bool false, Value.slice (some { block := w1.heap.size + 1, off := 0 }) 1 1, Value.slice (some { block := w1.heap.size + 1 + 1, off := 0 }) 1 1] 26)) = w2 at *
  generalize w1.heap.size = n at *
  clear HB
  have HB := Aside0.mk b5; have B1 := Aside0.mk b1; have B2 := Aside0.mk b2; have B3 := Aside0.mk b3; have B4 := Aside0.mk b4
  clear b1 b2 b3 b4 b5
  have p0 : policy_Put.f 20 false S1 K1 = some ([84, 80, 49, 0, 1, 1, 3, 0, 0, 0, 0, 0, 0, 0, 4, 1, 1, 0, 6], 0) := by decide +kernel
  have P0 := Aside0.mk p0
  clear p0
  have cA : ∀ {w : World}, w.heap[n + 1]? = some (.cells #[Value.int IntKind.i64 1, Value.int IntKind.u32 3, Value.int IntKind.u32 0, Value.int IntKind.u8 4] 35 (0, 0)) → Kd.C k35 w (some ⟨n + 1, 0, none⟩) S1.length S1 := fun h => one_C (⟨1, 3, 0, 4⟩ : S35) rfl (k35_mk _ _) h
  have cB : ∀ {w : World}, w.heap[n + 1 + 1]? = some (.cells #[Value.int IntKind.i64 1, Value.int IntKind.i64 0, Value.int IntKind.u8 6] 37 (0, 0)) → Kd.C k37 w (some ⟨n + 1 + 1, 0, none⟩) K1.length K1 := fun h => one_C (⟨1, 0, 6⟩ : S37) rfl (k37_mk _ _) h
  have CA := Aside0.mk @cA; have CB := Aside0.mk @cB
  clear cA cB
  refine (policy_Put.calls 20 false (some ⟨n + 1, 0, none⟩) 1 S1 (some ⟨n + 1 + 1, 0, none⟩) 1 K1 _ 0 w2 (CA.out B2.out) (by decide) (CB.out B3.out) (by decide) P0.out).mono ?_
  rintro e w3 ⟨v3, rfl, hr, hb⟩
  obtain ⟨A3, c3, hv3⟩ := Kd.R_slice hr
  subst hv3
  have n0 := Aside0.mk (below_step HB.out hb); have n1 := Aside0.mk (blk_below B1.out hb); have n2 := Aside0.mk (blk_below B2.out hb); have n3 := Aside0.mk (blk_below B3.out hb); have n4 := Aside0.mk (blk_below B4.out hb)
  clear HB B1 B2 B3 B4 hr hb
  have d0 : w3.cell? ⟨n, 0, none⟩ = some (.bool false) := (blk_cell n1.out 0).trans rfl
  have d1 : w3.cell? ⟨n, 1, none⟩ = some (.slice A1 0 c1) := (blk_cell n1.out 1).trans rfl
  have q0 : w3.cell? ⟨n + 1 + 1 + 1, 0, none⟩ = some (.bool false) := (blk_cell n4.out 0).trans rfl
  have q1 : w3.cell? ⟨n + 1 + 1 + 1, 1, none⟩ = some (Value.slice (some { block := n + 1, off := 0 }) 1 1) := (blk_cell n4.out 1).trans rfl
  have q2 : w3.cell? ⟨n + 1 + 1 + 1, 2, none⟩ = some (Value.slice (some { block := n + 1 + 1, off := 0 }) 1 1) := (blk_cell n4.out 2).trans rfl
  clear n1
  have hu26 := Try.underlying26
  have l1 : policy_Policy_Label.f 20 false S1 K1 1 3 = some 4 := by decide +kernel
  have l2 : policy_Policy_Label.f 20 false S1 K1 1 2 = some 0 := by decide +kernel
  have l3 : policy_Policy_Hits.f 20 false S1 K1 1 0 2 = some [0] := by decide +kernel
  have l4 : tincturelaw7_places.f 20 [0] [0] = some true := by decide +kernel
  have L1 := Aside0.mk l1; have L2 := Aside0.mk l2; have L3 := Aside0.mk l3; have L4 := Aside0.mk l4
  clear l1 l2 l3 l4
  go_wp2_with fail
  refine (policy_Policy_Label.calls 20 false (some ⟨n + 1, 0, none⟩) 1 S1 (some ⟨n + 1 + 1, 0, none⟩) 1 K1 1 3 4 _ (CA.out n2.out) (by decide) (CB.out n3.out) (by decide) L1.out).mono ?_
  rintro e w4 ⟨rfl, hb⟩
  clear d0 d1
  have m0 := Aside0.mk (below_step n0.out hb); have m2 := Aside0.mk (blk_below n2.out hb); have m3 := Aside0.mk (blk_below n3.out hb); have m4 := Aside0.mk (blk_below n4.out hb)
  clear n0 n2 n3 n4 hb q0 q1 q2
  have n0 := m0; have n2 := m2; have n3 := m3; have n4 := m4
  clear m0 m2 m3 m4
  have q0 : w4.cell? ⟨n + 1 + 1 + 1, 0, none⟩ = some (.bool false) := (blk_cell n4.out 0).trans rfl
  have q1 : w4.cell? ⟨n + 1 + 1 + 1, 1, none⟩ = some (Value.slice (some { block := n + 1, off := 0 }) 1 1) := (blk_cell n4.out 1).trans rfl
  have q2 : w4.cell? ⟨n + 1 + 1 + 1, 2, none⟩ = some (Value.slice (some { block := n + 1 + 1, off := 0 }) 1 1) := (blk_cell n4.out 2).trans rfl
  go_wp2_with fail
  refine (policy_Policy_Label.calls 20 false (some ⟨n + 1, 0, none⟩) 1 S1 (some ⟨n + 1 + 1, 0, none⟩) 1 K1 1 2 0 _ (CA.out n2.out) (by decide) (CB.out n3.out) (by decide) L2.out).mono ?_
  rintro e w5 ⟨rfl, hb⟩
  have m0 := Aside0.mk (below_step n0.out hb); have m2 := Aside0.mk (blk_below n2.out hb); have m3 := Aside0.mk (blk_below n3.out hb); have m4 := Aside0.mk (blk_below n4.out hb)
  clear n0 n2 n3 n4 hb q0 q1 q2
  have n0 := m0; have n2 := m2; have n3 := m3; have n4 := m4
  clear m0 m2 m3 m4
  have q0 : w5.cell? ⟨n + 1 + 1 + 1, 0, none⟩ = some (.bool false) := (blk_cell n4.out 0).trans rfl
  have q1 : w5.cell? ⟨n + 1 + 1 + 1, 1, none⟩ = some (Value.slice (some { block := n + 1, off := 0 }) 1 1) := (blk_cell n4.out 1).trans rfl
  have q2 : w5.cell? ⟨n + 1 + 1 + 1, 2, none⟩ = some (Value.slice (some { block := n + 1 + 1, off := 0 }) 1 1) := (blk_cell n4.out 2).trans rfl
  go_wp2_with fail
  refine (policy_Policy_Hits.calls 20 false (some ⟨n + 1, 0, none⟩) 1 S1 (some ⟨n + 1 + 1, 0, none⟩) 1 K1 1 0 2 [0] _ (CA.out n2.out) (by decide) (CB.out n3.out) (by decide) L3.out).mono ?_
  rintro e w6 ⟨v6, rfl, hr, hb⟩
  obtain ⟨A6, c6, hv6, le6, C6⟩ := Kd.R_reads hr
  subst hv6
  have CC6 := Aside0.mk C6; have LE6 := Aside0.mk le6
  clear hr C6 le6
  have m0 := Aside0.mk (below_step n0.out hb); have m2 := Aside0.mk (blk_below n2.out hb); have m3 := Aside0.mk (blk_below n3.out hb); have m4 := Aside0.mk (blk_below n4.out hb)
  clear n0 n2 n3 n4 hb q0 q1 q2
  have n0 := m0; have n2 := m2; have n3 := m3; have n4 := m4
  clear m0 m2 m3 m4
  have q0 : w6.cell? ⟨n + 1 + 1 + 1, 0, none⟩ = some (.bool false) := (blk_cell n4.out 0).trans rfl
  have q1 : w6.cell? ⟨n + 1 + 1 + 1, 1, none⟩ = some (Value.slice (some { block := n + 1, off := 0 }) 1 1) := (blk_cell n4.out 1).trans rfl
  have q2 : w6.cell? ⟨n + 1 + 1 + 1, 2, none⟩ = some (Value.slice (some { block := n + 1 + 1, off := 0 }) 1 1) := (blk_cell n4.out 2).trans rfl
  go_wp2_with fail
  have hal := below_alloc (Below.refl w6.heap.size w6) (Obj.cells #[Value.int IntKind.i64 0] 3)
  refine (tincturelaw7_places.calls 20 A6 c6 [0] (some ⟨w6.heap.size, 0, none⟩) 1 [0] true _ (Kd.C_below CC6.out hal) LE6.out (lit_C [0] rfl (by decide) (blk_new w6 _)) (by decide) L4.out).mono ?_
  rintro e w7 ⟨rfl, hd⟩
  have n7 := Aside0.mk (below_step (below_step n0.out hal) hd.below)
  clear hal hd q0 q1 q2 n0 n2 n3 n4
  go_wp2
  go_ret
  exact ⟨rfl, n7.out⟩
end Go.Proofs.Ytlhoaejkjhdlgaa.Awake
