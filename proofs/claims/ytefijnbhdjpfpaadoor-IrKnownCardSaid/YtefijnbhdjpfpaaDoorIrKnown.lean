/- IrKnown answers true. -/
import Derived.Test.YtefijnbhdjpfpaaDoorAwake
import Derived.Test.YtefijnbhdjpfpaaDoorDoor
import Derived.Lib.Hide
import Derived.Test.YtefijnbhdjpfpaaDoorReg
namespace Go.Proofs.YtefijnbhdjpfpaaDoor.IrKnown
open Go Go.RowKit Go.Proofs.YtefijnbhdjpfpaaDoor.Ir Go.Proofs.YtefijnbhdjpfpaaDoorW.PrintWords Go.Proofs.YtefijnbhdjpfpaaDoorW.PrintLast Go.Proofs.YtefijnbhdjpfpaaDoorW.PrintMore
set_option linter.unusedVariables false
set_option linter.unusedSimpArgs false
def cellsOf (l : List S25) : List Value := l.flatMap fun n => [.int .i64 n.f0, .int .i64 n.f1, .int .i64 n.f2, .int .i64 n.f3, .int .u32 n.f4]
theorem cellsOf_len (l : List S25) : (cellsOf l).length = l.length * 5 := by
  induction l with
  | nil => rfl
  | cons n r ih => simp [cellsOf] at ih ⊢; omega
theorem cellsOf_at (l : List S25) : ∀ (i : Nat) (x : S25), l[i]? = some x → ∀ j u, [Value.int .i64 x.f0, .int .i64 x.f1, .int .i64 x.f2, .int .i64 x.f3, .int .u32 x.f4][j]? = some u → (cellsOf l)[i * 5 + j]? = some u := by
  induction l with
  | nil => intro i x h; simp at h
  | cons n r ih =>
    intro i x h j u hj
    have hj5 : j < 5 := (List.getElem?_eq_some_iff.1 hj).1
    cases i with
    | zero =>
      simp at h
      subst h
      show ([Value.int .i64 n.f0, .int .i64 n.f1, .int .i64 n.f2, .int .i64 n.f3, .int .u32 n.f4] ++ cellsOf r)[0 * 5 + j]? = some u
      rw [List.getElem?_append_left (by simp; omega), Nat.zero_mul, Nat.zero_add]
      exact hj
    | succ i =>
      show ([Value.int .i64 n.f0, .int .i64 n.f1, .int .i64 n.f2, .int .i64 n.f3, .int .u32 n.f4] ++ cellsOf r)[(i + 1) * 5 + j]? = some u
      rw [List.getElem?_append_right (by simp; omega)]
      have := ih i x (by simpa using h) j u hj
      rw [← this]
      congr 1
      simp
      omega
theorem lit_C (l : List S25) (hle : l.length ≤ 9223372036854775807) (w : World) (h : Nat) (cs : Array Value) (hc : cs = (cellsOf l).toArray) (hb : w.heap[h]? = some (.cells cs 25 (0, 0))) : Kd.C k25 w (some ⟨h, 0, none⟩) l.length l := by
  refine ⟨rfl, hle, fun _ => ⟨⟨h, 0, none⟩, rfl, fun i x hx => ⟨[.int .i64 x.f0, .int .i64 x.f1, .int .i64 x.f2, .int .i64 x.f3, .int .u32 x.f4], rfl, k25_mk w x, fun j u hj => ?_⟩⟩⟩
  show w.cell? (Addr.add ⟨h, 0, none⟩ (i * 5 + j)) = some u
  have e : (Addr.add ⟨h, 0, none⟩ (i * 5 + j)) = ⟨h, i * 5 + j, none⟩ := by
    unfold Addr.add
    split
    · rename_i h0; rw [h0]
    · simp
  rw [e, blk_cell hb, hc]
  simp only [List.getElem?_toArray]
  exact cellsOf_at l i x hx j u hj
theorem lit_good (l : List S25) (hle : l.length ≤ 9223372036854775807) (b : Bool) (hg : goodB l = b) (cs : Array Value) (hc : cs = (cellsOf l).toArray) (n : Nat) (hn : n = l.length) (h : Nat) (w : World) (hb : w.heap[h]? = some (.cells cs 25 (0, 0))) :
    Calls Tryd.prog 11 #[.slice (some ⟨h, 0, none⟩) n n] w fun e w' => e = .returned (.bool b) ∧ Below w.heap.size w w' := by
  subst hn
  exact ir_Good.calls _ _ l _ w (lit_C l hle w h cs hc hb) (Nat.le_refl _) (congrArg some hg)
/-- What stands all along: the two nodes' blocks, the list that Reads told. -/
structure St (W : World) (b1 b2 : Nat) (ad : Addr) (w : World) : Prop where
  m : w.heap[b1]? = some (.cells #[.int .i64 8, .int .i64 0, .int .i64 0, .int .i64 0, .int .u32 0] 25 (0, 0))
  g : w.heap[b2]? = some (.cells #[.int .i64 12, .int .i64 0, .int .i64 0, .int .i64 0, .int .u32 0] 25 (0, 0))
  r0 : w.cell? (ad.add 0) = some (.int .i64 3)
  r1 : w.cell? (ad.add 1) = some (.int .i64 4)
  below : Below W.heap.size W w
theorem St.later {W : World} {b1 b2 : Nat} {ad : Addr} {w w' : World} (h : St W b1 b2 ad w) (hb : Below w.heap.size w w') : St W b1 b2 ad w' := by
  refine ⟨?_, ?_, (hb.cell (World.block_lt_of_cell? w _ h.r0)).trans h.r0, (hb.cell (World.block_lt_of_cell? w _ h.r1)).trans h.r1, h.below.trans (hb.mono h.below.size)⟩
  · rw [hb.block _ (Array.getElem?_eq_some_iff.1 h.m).1]; exact h.m
  · rw [hb.block _ (Array.getElem?_eq_some_iff.1 h.g).1]; exact h.g
theorem St.step {W : World} {b1 b2 : Nat} {ad : Addr} {w w' : World} {o : Obj} (h : St W b1 b2 ad w) (hb : Below (w.alloc o).heap.size (w.alloc o) w') : St W b1 b2 ad w' :=
  (h.later ((Below.refl _ _).alloc (Nat.le_refl _) _)).later hb
theorem St.cells {W : World} {b1 b2 : Nat} {ad : Addr} {w : World} (h : St W b1 b2 ad w) : w.cell? ⟨b1, 0, none⟩ = some (.int .i64 8) ∧ w.cell? ⟨b1, 1, none⟩ = some (.int .i64 0) ∧ w.cell? ⟨b1, 2, none⟩ = some (.int .i64 0) ∧ w.cell? ⟨b1, 3, none⟩ = some (.int .i64 0) ∧ w.cell? ⟨b1, 4, none⟩ = some (.int .u32 0) ∧ w.cell? ⟨b2, 0, none⟩ = some (.int .i64 12) ∧ w.cell? ⟨b2, 1, none⟩ = some (.int .i64 0) ∧ w.cell? ⟨b2, 2, none⟩ = some (.int .i64 0) ∧ w.cell? ⟨b2, 3, none⟩ = some (.int .i64 0) ∧ w.cell? ⟨b2, 4, none⟩ = some (.int .u32 0) :=
  ⟨(blk_cell h.m 0).trans rfl, (blk_cell h.m 1).trans rfl, (blk_cell h.m 2).trans rfl, (blk_cell h.m 3).trans rfl, (blk_cell h.m 4).trans rfl, (blk_cell h.g 0).trans rfl, (blk_cell h.g 1).trans rfl, (blk_cell h.g 2).trans rfl, (blk_cell h.g 3).trans rfl, (blk_cell h.g 4).trans rfl⟩
theorem good0 (h : Nat) (w : World) (hb : w.heap[h]? = some (.cells #[.int .i64 12, .int .i64 0, .int .i64 0, .int .i64 0, .int .u32 0] 25 (0, 0))) : Calls Tryd.prog 11 #[.slice (some ⟨h, 0, none⟩) 1 1] w fun e w' => e = .returned (.bool false) ∧ Below w.heap.size w w' :=
  lit_good [(⟨12, 0, 0, 0, 0⟩ : S25)] (by decide) false (by decide +kernel) _ rfl _ rfl h w hb
theorem good1 (h : Nat) (w : World) (hb : w.heap[h]? = some (.cells #[.int .i64 8, .int .i64 0, .int .i64 0, .int .i64 0, .int .u32 0] 25 (0, 0))) : Calls Tryd.prog 11 #[.slice (some ⟨h, 0, none⟩) 1 1] w fun e w' => e = .returned (.bool false) ∧ Below w.heap.size w w' :=
  lit_good [(⟨8, 0, 0, 0, 0⟩ : S25)] (by decide) false (by decide +kernel) _ rfl _ rfl h w hb
theorem good2 (h : Nat) (w : World) (hb : w.heap[h]? = some (.cells #[.int .i64 8, .int .i64 0, .int .i64 0, .int .i64 0, .int .u32 0, .int .i64 3, .int .i64 0, .int .i64 1, .int .i64 0, .int .u32 1, .int .i64 12, .int .i64 0, .int .i64 0, .int .i64 0, .int .u32 0] 25 (0, 0))) : Calls Tryd.prog 11 #[.slice (some ⟨h, 0, none⟩) 3 3] w fun e w' => e = .returned (.bool false) ∧ Below w.heap.size w w' :=
  lit_good [(⟨8, 0, 0, 0, 0⟩ : S25), (⟨3, 0, 1, 0, 1⟩ : S25), (⟨12, 0, 0, 0, 0⟩ : S25)] (by decide) false (by decide +kernel) _ rfl _ rfl h w hb
theorem good3 (h : Nat) (w : World) (hb : w.heap[h]? = some (.cells #[.int .i64 8, .int .i64 0, .int .i64 0, .int .i64 0, .int .u32 0, .int .i64 1, .int .i64 1, .int .i64 0, .int .i64 0, .int .u32 0, .int .i64 3, .int .i64 0, .int .i64 1, .int .i64 0, .int .u32 1, .int .i64 12, .int .i64 0, .int .i64 0, .int .i64 0, .int .u32 0] 25 (0, 0))) : Calls Tryd.prog 11 #[.slice (some ⟨h, 0, none⟩) 4 4] w fun e w' => e = .returned (.bool true) ∧ Below w.heap.size w w' :=
  lit_good [(⟨8, 0, 0, 0, 0⟩ : S25), (⟨1, 1, 0, 0, 0⟩ : S25), (⟨3, 0, 1, 0, 1⟩ : S25), (⟨12, 0, 0, 0, 0⟩ : S25)] (by decide) true (by decide +kernel) _ rfl _ rfl h w hb
theorem good4 (h : Nat) (w : World) (hb : w.heap[h]? = some (.cells #[.int .i64 8, .int .i64 0, .int .i64 0, .int .i64 0, .int .u32 0, .int .i64 1, .int .i64 1, .int .i64 0, .int .i64 0, .int .u32 0, .int .i64 3, .int .i64 0, .int .i64 1, .int .i64 0, .int .u32 0, .int .i64 12, .int .i64 0, .int .i64 0, .int .i64 0, .int .u32 0] 25 (0, 0))) : Calls Tryd.prog 11 #[.slice (some ⟨h, 0, none⟩) 4 4] w fun e w' => e = .returned (.bool false) ∧ Below w.heap.size w w' :=
  lit_good [(⟨8, 0, 0, 0, 0⟩ : S25), (⟨1, 1, 0, 0, 0⟩ : S25), (⟨3, 0, 1, 0, 0⟩ : S25), (⟨12, 0, 0, 0, 0⟩ : S25)] (by decide) false (by decide +kernel) _ rfl _ rfl h w hb
theorem good5 (h : Nat) (w : World) (hb : w.heap[h]? = some (.cells #[.int .i64 8, .int .i64 0, .int .i64 0, .int .i64 0, .int .u32 0, .int .i64 1, .int .i64 256, .int .i64 0, .int .i64 0, .int .u32 0, .int .i64 12, .int .i64 0, .int .i64 0, .int .i64 0, .int .u32 0] 25 (0, 0))) : Calls Tryd.prog 11 #[.slice (some ⟨h, 0, none⟩) 3 3] w fun e w' => e = .returned (.bool false) ∧ Below w.heap.size w w' :=
  lit_good [(⟨8, 0, 0, 0, 0⟩ : S25), (⟨1, 256, 0, 0, 0⟩ : S25), (⟨12, 0, 0, 0, 0⟩ : S25)] (by decide) false (by decide +kernel) _ rfl _ rfl h w hb
theorem good6 (h : Nat) (w : World) (hb : w.heap[h]? = some (.cells #[.int .i64 8, .int .i64 0, .int .i64 0, .int .i64 0, .int .u32 0, .int .i64 9, .int .i64 0, .int .i64 0, .int .i64 0, .int .u32 1, .int .i64 12, .int .i64 0, .int .i64 0, .int .i64 0, .int .u32 0] 25 (0, 0))) : Calls Tryd.prog 11 #[.slice (some ⟨h, 0, none⟩) 3 3] w fun e w' => e = .returned (.bool false) ∧ Below w.heap.size w w' :=
  lit_good [(⟨8, 0, 0, 0, 0⟩ : S25), (⟨9, 0, 0, 0, 1⟩ : S25), (⟨12, 0, 0, 0, 0⟩ : S25)] (by decide) false (by decide +kernel) _ rfl _ rfl h w hb
theorem good7 (h : Nat) (w : World) (hb : w.heap[h]? = some (.cells #[.int .i64 8, .int .i64 0, .int .i64 0, .int .i64 0, .int .u32 0, .int .i64 14, .int .i64 2, .int .i64 0, .int .i64 0, .int .u32 1, .int .i64 12, .int .i64 0, .int .i64 0, .int .i64 0, .int .u32 0] 25 (0, 0))) : Calls Tryd.prog 11 #[.slice (some ⟨h, 0, none⟩) 3 3] w fun e w' => e = .returned (.bool false) ∧ Below w.heap.size w w' :=
  lit_good [(⟨8, 0, 0, 0, 0⟩ : S25), (⟨14, 2, 0, 0, 1⟩ : S25), (⟨12, 0, 0, 0, 0⟩ : S25)] (by decide) false (by decide +kernel) _ rfl _ rfl h w hb
theorem good8 (h : Nat) (w : World) (hb : w.heap[h]? = some (.cells #[.int .i64 8, .int .i64 0, .int .i64 0, .int .i64 0, .int .u32 0, .int .i64 22, .int .i64 0, .int .i64 0, .int .i64 0, .int .u32 0, .int .i64 12, .int .i64 0, .int .i64 0, .int .i64 0, .int .u32 0] 25 (0, 0))) : Calls Tryd.prog 11 #[.slice (some ⟨h, 0, none⟩) 3 3] w fun e w' => e = .returned (.bool false) ∧ Below w.heap.size w w' :=
  lit_good [(⟨8, 0, 0, 0, 0⟩ : S25), (⟨22, 0, 0, 0, 0⟩ : S25), (⟨12, 0, 0, 0, 0⟩ : S25)] (by decide) false (by decide +kernel) _ rfl _ rfl h w hb
theorem good9 (h : Nat) (w : World) (hb : w.heap[h]? = some (.cells #[.int .i64 8, .int .i64 0, .int .i64 0, .int .i64 0, .int .u32 0, .int .i64 2, .int .i64 1, .int .i64 0, .int .i64 0, .int .u32 32, .int .i64 12, .int .i64 0, .int .i64 0, .int .i64 0, .int .u32 0] 25 (0, 0))) : Calls Tryd.prog 11 #[.slice (some ⟨h, 0, none⟩) 3 3] w fun e w' => e = .returned (.bool false) ∧ Below w.heap.size w w' :=
  lit_good [(⟨8, 0, 0, 0, 0⟩ : S25), (⟨2, 1, 0, 0, 32⟩ : S25), (⟨12, 0, 0, 0, 0⟩ : S25)] (by decide) false (by decide +kernel) _ rfl _ rfl h w hb
theorem good10 (h : Nat) (w : World) (hb : w.heap[h]? = some (.cells #[.int .i64 8, .int .i64 0, .int .i64 0, .int .i64 0, .int .u32 0, .int .i64 13, .int .i64 0, .int .i64 0, .int .i64 0, .int .u32 5] 25 (0, 0))) : Calls Tryd.prog 11 #[.slice (some ⟨h, 0, none⟩) 2 2] w fun e w' => e = .returned (.bool true) ∧ Below w.heap.size w w' :=
  lit_good [(⟨8, 0, 0, 0, 0⟩ : S25), (⟨13, 0, 0, 0, 5⟩ : S25)] (by decide) true (by decide +kernel) _ rfl _ rfl h w hb
theorem good11 (h : Nat) (w : World) (hb : w.heap[h]? = some (.cells #[.int .i64 8, .int .i64 0, .int .i64 0, .int .i64 0, .int .u32 0, .int .i64 13, .int .i64 0, .int .i64 0, .int .i64 0, .int .u32 4] 25 (0, 0))) : Calls Tryd.prog 11 #[.slice (some ⟨h, 0, none⟩) 2 2] w fun e w' => e = .returned (.bool false) ∧ Below w.heap.size w w' :=
  lit_good [(⟨8, 0, 0, 0, 0⟩ : S25), (⟨13, 0, 0, 0, 4⟩ : S25)] (by decide) false (by decide +kernel) _ rfl _ rfl h w hb
theorem wr6 (w : World) : Calls Tryd.prog 9 #[.agg #[.int .i64 6, .int .i64 9, .int .i64 3, .int .i64 0, .int .u32 1]] w fun e w' => e = .returned (.tuple #[.int .i64 9, .bool true]) ∧ Below w.heap.size w w' := writes9 (⟨6, 9, 3, 0, 1⟩ : S25) 9 true (by decide) w
theorem wr14 (w : World) : Calls Tryd.prog 9 #[.agg #[.int .i64 14, .int .i64 9, .int .i64 0, .int .i64 0, .int .u32 0]] w fun e w' => e = .returned (.tuple #[.int .i64 0, .bool false]) ∧ Below w.heap.size w w' := writes9 (⟨14, 9, 0, 0, 0⟩ : S25) 0 false (by decide) w
theorem rd19 (w : World) : Calls Tryd.prog 10 #[.agg #[.int .i64 19, .int .i64 4, .int .i64 3, .int .i64 0, .int .u32 0]] w (ReadsE [3, 4] w) := reads10 (⟨19, 4, 3, 0, 0⟩ : S25) [3, 4] (by decide) w
theorem rd14 (w : World) : Calls Tryd.prog 10 #[.agg #[.int .i64 14, .int .i64 4, .int .i64 0, .int .i64 0, .int .u32 0]] w (ReadsE [] w) := reads10 (⟨14, 4, 0, 0, 0⟩ : S25) [] (by decide) w
theorem blk_second (w : World) (o1 o2 : Obj) : ((w.alloc o1).alloc o2).heap[w.heap.size + 1]? = some o2 := by
  have h := blk_new (w.alloc o1) o2
  have e : (w.alloc o1).heap.size = w.heap.size + 1 := by simp
  rw [e] at h
  exact h
theorem ints2 {w : World} {A : Option Addr} (h : Kd.C (Kd.int .i64) w A [(3 : Int), 4].length [3, 4]) : ∃ ad, A = some ad ∧ w.cell? (ad.add 0) = some (.int .i64 3) ∧ w.cell? (ad.add 1) = some (.int .i64 4) := by
  obtain ⟨ad, e, hc⟩ := h.2.2 (by decide)
  refine ⟨ad, e, ?_, ?_⟩
  · obtain ⟨c, _, hK, hx⟩ := hc 0 3 rfl
    exact hx 0 (.int .i64 3) (by rw [hK]; rfl)
  · obtain ⟨c, _, hK, hx⟩ := hc 1 4 rfl
    exact hx 0 (.int .i64 4) (by rw [hK]; rfl)
set_option maxRecDepth 100000 in
set_option maxHeartbeats 40000000 in
theorem walk (W : World) (hL : Door.Laid W) : Calls Tryd.prog 3 #[] W fun e w' => e = .returned (.bool true) ∧ Below W.heap.size W w' := by
  clear hL
  have AW := tincturelaw19_awake.calls true W awake_at
  go_enter Tryd.func3, Tryd.ntmps3
  go_wp2_with (go_at_call 8; refine AW.mono ?_; rintro e w1 ⟨rfl, hb1⟩)
  refine (wr6 _).mono ?_
  rintro e w2 ⟨rfl, hb2⟩
  go_wp2_with fail
  refine (wr14 _).mono ?_
  rintro e w3 ⟨rfl, hb3⟩
  go_wp2_with fail
  refine (rd19 _).mono ?_
  rintro e w4 ⟨A, k, rfl, hk, hC, hb4⟩
  obtain ⟨ad, rfl, r0, r1⟩ := ints2 hC
  have hS : St W w1.heap.size (w1.heap.size + 1) ad w4 := by
    have z0 : w1.heap.size < ((w1.alloc (.cells #[.int .i64 8, .int .i64 0, .int .i64 0, .int .i64 0, .int .u32 0] 25)).alloc (.cells #[.int .i64 12, .int .i64 0, .int .i64 0, .int .i64 0, .int .u32 0] 25)).heap.size := by simp; omega
    have z1 : w1.heap.size + 1 < ((w1.alloc (.cells #[.int .i64 8, .int .i64 0, .int .i64 0, .int .i64 0, .int .u32 0] 25)).alloc (.cells #[.int .i64 12, .int .i64 0, .int .i64 0, .int .i64 0, .int .u32 0] 25)).heap.size := by simp
    have hb := (hb2.trans (hb3.mono hb2.size)).trans (hb4.mono (hb2.trans (hb3.mono hb2.size)).size)
    refine ⟨?_, ?_, r0, r1, ?_⟩
    · rw [hb.block _ z0]; exact Reg.blk_later (blk_new w1 _) ((Below.refl _ _).alloc (Nat.le_refl _) _)
    · rw [hb.block _ z1]; exact blk_second _ _ _
    · have e1 := (hb1.alloc hb1.size (.cells #[.int .i64 8, .int .i64 0, .int .i64 0, .int .i64 0, .int .u32 0] 25)); have e2 := e1.alloc e1.size (.cells #[.int .i64 12, .int .i64 0, .int .i64 0, .int .i64 0, .int .u32 0] 25)
      exact e2.trans (hb.mono e2.size)
  have r0' : w4.cell? ad = some (.int .i64 3) := by
    have e : ad.add 0 = ad := by cases ad; simp [Addr.add]
    rw [e] at r0; exact r0
  have S0 := Lib.hid hS
  have K := Lib.hid hk
  clear hb2 hb3 hb4 hb1 AW hC r0 r1 r0' hk
  obtain ⟨c0, c1, c2, c3, c4, c5, c6, c7, c8, c9⟩ := hS.cells
  clear hS
  go_wp2_with fail
  refine (good0 _ _ (blk_new _ _)).mono ?_
  rintro e x0 ⟨rfl, hb⟩
  clear c0 c1 c2 c3 c4 c5 c6 c7 c8 c9
  have S1 := Lib.hid (S0.out.step hb)
  clear hb
  obtain ⟨c0, c1, c2, c3, c4, c5, c6, c7, c8, c9⟩ := S1.out.cells
  go_wp2_with fail
  refine (good1 _ _ (blk_new _ _)).mono ?_
  rintro e x1 ⟨rfl, hb⟩
  clear c0 c1 c2 c3 c4 c5 c6 c7 c8 c9
  have S2 := Lib.hid (S1.out.step hb)
  clear hb
  obtain ⟨c0, c1, c2, c3, c4, c5, c6, c7, c8, c9⟩ := S2.out.cells
  go_wp2_with fail
  refine (good2 _ _ (blk_new _ _)).mono ?_
  rintro e x2 ⟨rfl, hb⟩
  clear c0 c1 c2 c3 c4 c5 c6 c7 c8 c9
  have S3 := Lib.hid (S2.out.step hb)
  clear hb
  obtain ⟨c0, c1, c2, c3, c4, c5, c6, c7, c8, c9⟩ := S3.out.cells
  go_wp2_with fail
  refine (good3 _ _ (blk_new _ _)).mono ?_
  rintro e x3 ⟨rfl, hb⟩
  clear c0 c1 c2 c3 c4 c5 c6 c7 c8 c9
  have S4 := Lib.hid (S3.out.step hb)
  clear hb
  obtain ⟨c0, c1, c2, c3, c4, c5, c6, c7, c8, c9⟩ := S4.out.cells
  go_wp2_with fail
  refine (good4 _ _ (blk_new _ _)).mono ?_
  rintro e x4 ⟨rfl, hb⟩
  clear c0 c1 c2 c3 c4 c5 c6 c7 c8 c9
  have S5 := Lib.hid (S4.out.step hb)
  clear hb
  obtain ⟨c0, c1, c2, c3, c4, c5, c6, c7, c8, c9⟩ := S5.out.cells
  go_wp2_with fail
  refine (good5 _ _ (blk_new _ _)).mono ?_
  rintro e x5 ⟨rfl, hb⟩
  clear c0 c1 c2 c3 c4 c5 c6 c7 c8 c9
  have S6 := Lib.hid (S5.out.step hb)
  clear hb
  obtain ⟨c0, c1, c2, c3, c4, c5, c6, c7, c8, c9⟩ := S6.out.cells
  go_wp2_with fail
  refine (good6 _ _ (blk_new _ _)).mono ?_
  rintro e x6 ⟨rfl, hb⟩
  clear c0 c1 c2 c3 c4 c5 c6 c7 c8 c9
  have S7 := Lib.hid (S6.out.step hb)
  clear hb
  obtain ⟨c0, c1, c2, c3, c4, c5, c6, c7, c8, c9⟩ := S7.out.cells
  go_wp2_with fail
  refine (good7 _ _ (blk_new _ _)).mono ?_
  rintro e x7 ⟨rfl, hb⟩
  clear c0 c1 c2 c3 c4 c5 c6 c7 c8 c9
  have S8 := Lib.hid (S7.out.step hb)
  clear hb
  obtain ⟨c0, c1, c2, c3, c4, c5, c6, c7, c8, c9⟩ := S8.out.cells
  go_wp2_with fail
  refine (good8 _ _ (blk_new _ _)).mono ?_
  rintro e x8 ⟨rfl, hb⟩
  clear c0 c1 c2 c3 c4 c5 c6 c7 c8 c9
  have S9 := Lib.hid (S8.out.step hb)
  clear hb
  obtain ⟨c0, c1, c2, c3, c4, c5, c6, c7, c8, c9⟩ := S9.out.cells
  go_wp2_with fail
  refine (good9 _ _ (blk_new _ _)).mono ?_
  rintro e x9 ⟨rfl, hb⟩
  clear c0 c1 c2 c3 c4 c5 c6 c7 c8 c9
  have S10 := Lib.hid (S9.out.step hb)
  clear hb
  obtain ⟨c0, c1, c2, c3, c4, c5, c6, c7, c8, c9⟩ := S10.out.cells
  go_wp2_with fail
  refine (good10 _ _ (blk_new _ _)).mono ?_
  rintro e x10 ⟨rfl, hb⟩
  clear c0 c1 c2 c3 c4 c5 c6 c7 c8 c9
  have S11 := Lib.hid (S10.out.step hb)
  clear hb
  obtain ⟨c0, c1, c2, c3, c4, c5, c6, c7, c8, c9⟩ := S11.out.cells
  go_wp2_with fail
  refine (good11 _ _ (blk_new _ _)).mono ?_
  rintro e x11 ⟨rfl, hb⟩
  clear c0 c1 c2 c3 c4 c5 c6 c7 c8 c9
  have S12 := Lib.hid (S11.out.step hb)
  clear hb
  obtain ⟨c0, c1, c2, c3, c4, c5, c6, c7, c8, c9⟩ := S12.out.cells
  have q0 : x11.cell? ad = some (.int .i64 3) := by
    have e : ad.add 0 = ad := by cases ad; simp [Addr.add]
    have := S12.out.r0
    rw [e] at this; exact this
  have q1 : x11.cell? ⟨ad.block, ad.off + 1, none⟩ = some (.int .i64 4) := by
    have := S12.out.r1
    rw [show (1 : Nat) = 0 + 1 from rfl, add_field _ _ 1 (by omega)] at this
    have e : ad.add 0 = ad := by cases ad; simp [Addr.add]
    rw [e] at this; exact this
  go_wp2_with fail
  refine (rd14 _).mono ?_
  rintro e x99 ⟨A9, k9, rfl, hk9, hC9, hb9⟩
  clear hC9 hk9 c0 c1 c2 c3 c4 c5 c6 c7 c8 c9 q0 q1
  have S99 := Lib.hid (S12.out.later hb9)
  clear hb9
  go_wp2
  go_ret
  exact ⟨rfl, S99.out.below⟩
end Go.Proofs.YtefijnbhdjpfpaaDoor.IrKnown
