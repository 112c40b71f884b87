/- The program's reader of bytes (package policy): what 'one' and 'four' read. -/
import Derived.Test.YtlhoaejkjhdlgaaPPolicyBytesx0
import Derived.KernelRfl
import Derived.WalkKit
import Derived.Outline
namespace Go.Proofs.Ytlhoaejkjhdlgaa.Reader
open Go Go.RowKit Go.Proofs.Ytlhoaejkjhdlgaa.PPolicyBytes Go.Proofs.YtlhoaejkjhdlgaaW.PrintWords Go.Proofs.YtlhoaejkjhdlgaaW.PrintLast Go.Proofs.YtlhoaejkjhdlgaaW.PrintMore
set_option linter.unusedVariables false
set_option linter.unusedSimpArgs false

/-- The reader at block g of W: the bytes l are left; they came in by w0. -/
def IsR (w0 W : World) (g : Nat) (l : List Int) (bad : Bool) : Prop := ∃ A c, W.heap[g]? = some (.cells #[.slice A l.length c, .bool bad] 60 (0, 0)) ∧ w0.heap.size ≤ g ∧ ReadsOf (Value.int .u8) (0 : Int) w0 A l.length l ∧ l.length ≤ c
theorem IsR.drewN {w0 W : World} {g : Nat} {l : List Int} {b : Bool} (h : IsR w0 W g l b) (n : Nat) : IsR w0 (W.drewN n) g l b := h
theorem IsR.below {w0 W W1 : World} {g : Nat} {l : List Int} {b : Bool} (h : IsR w0 W g l b) (hb : Below W.heap.size W W1) : IsR w0 W1 g l b := by
  obtain ⟨A, c, h1, h2, h3, h4⟩ := h
  exact ⟨A, c, blk_below h1 hb, h2, h3, h4⟩

set_option maxRecDepth 100000 in
theorem one_end (g : Nat) (bad : Bool) (w0 w : World) (hI : IsR w0 w g [] bad) (hB : Below w0.heap.size w0 w) :
    Calls Try.prog 22 #[.pointer (some ⟨g, 0, none⟩)] w fun e w' => e = .returned (.int .u8 0) ∧ w' = w.setCell ⟨g, 1, none⟩ (.bool true) := by
  obtain ⟨A, c, h1, h2, h3, h4⟩ := hI
  have c0 : w.cell? ⟨g, 0, none⟩ = some (.slice A 0 c) := (blk_cell h1 0).trans rfl
  have c1 : w.cell? ⟨g, 1, none⟩ = some (.bool bad) := (blk_cell h1 1).trans rfl
  have f1 := blk_frozen h1 1
  clear h1 h3 hB
  go_enter Try.func22, Try.ntmps22
  go_wp2
  go_ret
  exact ⟨rfl, rfl⟩
set_option maxRecDepth 100000 in
theorem one_more (g : Nat) (x : Int) (l : List Int) (bad : Bool) (w0 w : World) (hI : IsR w0 w g (x :: l) bad) (hB : Below w0.heap.size w0 w) :
    Calls Try.prog 22 #[.pointer (some ⟨g, 0, none⟩)] w fun e w' => e = .returned (.int .u8 x) ∧ ∃ A c, w' = w.setCell ⟨g, 0, none⟩ (.slice A l.length c) ∧ ReadsOf (Value.int .u8) (0 : Int) w0 A l.length l ∧ l.length ≤ c := by
  obtain ⟨A, c, h1, h2, h3, h4⟩ := hI
  have hn : (x :: l).length = l.length + 1 := rfl
  rw [hn] at h1 h3 h4
  have c0 : w.cell? ⟨g, 0, none⟩ = some (.slice A (l.length + 1) c) := (blk_cell h1 0).trans rfl
  have c1 : w.cell? ⟨g, 1, none⟩ = some (.bool bad) := (blk_cell h1 1).trans rfl
  have f0 := blk_frozen h1 0
  have f1 := blk_frozen h1 1
  obtain ⟨ad, rfl, hcell⟩ := h3.2.2 (by omega)
  have h0 : w.cell? ad = some (.int .u8 x) := by
    have := hcell 0 (by omega)
    rw [show ad.add 0 = ad from rfl] at this
    exact pw_cell_below hB this
  have hmax := h3.2.1
  obtain ⟨A', hrun, hread⟩ := print_cut_of (P := Try.prog) (Value.int .u8) (0 : Int) 30 5 .i64 Try.underlying30 rfl rfl (some ad) (l.length + 1) c 1 (by omega)
  have hr2 := hread w0 _ h4 h3
  have hlen : l.length + 1 - 1 = l.length := by omega
  have hrun2 : ∀ W : World, (Instr.slice 30 (.slice (some ad) (l.length + 1) c) (some (.int .i64 1)) none none).run Try.prog W = .ok (.slice A' l.length (c - 1)) W := fun W => by
    have := hrun W; rw [hlen] at this; exact this
  rw [hlen] at hr2
  have HR := Aside0.mk hr2
  have HC : Aside0 (l.length ≤ c - 1) := ⟨by omega⟩
  clear h1 h3 hB hrun hread hr2 hlen hn hcell
  go_enter Try.func22, Try.ntmps22
  go_wp2
  go_ret
  exact ⟨rfl, A', c - 1, rfl, HR.out, HC.out⟩
/-- What a read leaves. -/
def After (w0 w : World) (g : Nat) (v : Value) (l : List Int) (bad : Bool) (e : Ending) (w' : World) : Prop :=
  e = .returned v ∧ IsR w0 w' g l bad ∧ Below w0.heap.size w0 w' ∧ KeepBut w w' g none
theorem below_setR {w0 w : World} {g : Nat} (hB : Below w0.heap.size w0 w) (hg : w0.heap.size ≤ g) (j : Nat) (v : Value) : Below w0.heap.size w0 (w.setCell ⟨g, j, none⟩ v) := hB.setCell hg v
theorem one (g : Nat) (l : List Int) (bad : Bool) (w0 w : World) (hI : IsR w0 w g l bad) (hB : Below w0.heap.size w0 w) :
    Calls Try.prog 22 #[.pointer (some ⟨g, 0, none⟩)] w (After w0 w g (.int .u8 (l.headD 0)) l.tail (bad || l.isEmpty)) := by
  have hI2 := hI
  obtain ⟨A, c, h1, h2, h3, h4⟩ := hI2
  cases l with
  | nil =>
    refine (one_end g bad w0 w hI hB).mono ?_
    rintro e w' ⟨rfl, rfl⟩
    refine ⟨rfl, ⟨A, c, ?_, h2, h3, h4⟩, below_setR hB h2 1 _, (KeepBut.refl w g none).set_ 1 _⟩
    simpa using blk_set h1 1 (.bool true)
  | cons x l =>
    refine (one_more g x l bad w0 w hI hB).mono ?_
    rintro e w' ⟨rfl, A', c', rfl, hr, hc⟩
    refine ⟨rfl, ⟨A', c', ?_, h2, hr, hc⟩, below_setR hB h2 0 _, (KeepBut.refl w g none).set_ 0 _⟩
    simpa using blk_set h1 0 (.slice A' l.length c')
theorem one_at (g : Nat) (l l' : List Int) (bad bad' : Bool) (b : Int) (hb : l.headD 0 = b) (hl : l.tail = l') (hbad : (bad || l.isEmpty) = bad') (w0 w : World) (hI : IsR w0 w g l bad) (hB : Below w0.heap.size w0 w) :
    Calls Try.prog 22 #[.pointer (some ⟨g, 0, none⟩)] w (After w0 w g (.int .u8 b) l' bad') := by
  subst hb; subst hl; subst hbad
  exact one g l bad w0 w hI hB
/-- The number that k bytes tell, the lowest first; bytes that are not there are 0. -/
def le : Nat → List Int → Int
  | 0, _ => 0
  | k + 1, l => le k l + (l.drop k).headD 0 * 256 ^ k
def Bytes (l : List Int) : Prop := ∀ x ∈ l, 0 ≤ x ∧ x ≤ 255
theorem Bytes.drop {l : List Int} (h : Bytes l) (k : Nat) : Bytes (l.drop k) := fun x hx => h x (List.mem_of_mem_drop hx)
theorem Bytes.head {l : List Int} (h : Bytes l) : 0 ≤ l.headD 0 ∧ l.headD 0 ≤ 255 := by
  cases l with
  | nil => simp
  | cons x l => exact h x (by simp)
theorem le_bound {l : List Int} (h : Bytes l) (k : Nat) : 0 ≤ le k l ∧ le k l < 256 ^ k := by
  induction k with
  | zero => simp [le]
  | succ k ih =>
    have hb := (h.drop k).head
    have hp : (0 : Int) < 256 ^ k := Int.pow_pos (by decide)
    generalize hx : (l.drop k).headD 0 = x at *
    have e : le (k + 1) l = le k l + x * 256 ^ k := by rw [le, hx]
    rw [e, Int.pow_succ]
    have h1 : 0 ≤ x * 256 ^ k := Int.mul_nonneg hb.1 (by omega)
    have h2 : x * 256 ^ k ≤ 255 * 256 ^ k := Int.mul_le_mul_of_nonneg_right hb.2 (by omega)
    omega
theorem or_byte {v x : Int} (k : Nat) (hk : k < 4) (hv : 0 ≤ v ∧ v < 256 ^ k) (hx : 0 ≤ x ∧ x ≤ 255) : Go.bits .or .u32 v (x * 256 ^ k) = v + x * 256 ^ k := by
  have hsw : Go.bits .or .u32 v (x * 256 ^ k) = Go.bits .or .u32 (x * 256 ^ k) v := by simp only [Go.bits, BitVec.or_comm]
  have hp : (256 : Int) ^ k = 2 ^ (8 * k) := by rw [Int.pow_mul]; rfl
  rw [hsw]
  have hb : (256 : Int) ^ k = 1 ∨ (256 : Int) ^ k = 256 ∨ (256 : Int) ^ k = 65536 ∨ (256 : Int) ^ k = 16777216 := by
    rcases (by omega : k = 0 ∨ k = 1 ∨ k = 2 ∨ k = 3) with rfl | rfl | rfl | rfl <;> decide
  have hle : x * 256 ^ k < 4294967296 ∧ 0 ≤ x * 256 ^ k ∧ v < 4294967296 := by rcases hb with h | h | h | h <;> rw [h] at hv ⊢ <;> omega
  rw [bits_join .u32 32 (by decide) (fun n h h' => by rw [IntKind.wrap_u32]; omega) (8 * k) (x * 256 ^ k) v hle.2.1 (by rw [hp, Int.mul_emod_left]) hle.1 hv.1 (by rw [← hp]; exact hv.2) hle.2.2]
  omega
set_option maxHeartbeats 1000000 in
set_option maxRecDepth 100000 in
theorem four (g : Nat) (l : List Int) (bad : Bool) (w0 w : World) (hl : Bytes l) (hI : IsR w0 w g l bad) (hB : Below w0.heap.size w0 w) :
    Calls Try.prog 23 #[.pointer (some ⟨g, 0, none⟩)] w (After w0 w g (.int .u32 (le 4 l)) (l.drop 4) (bad || decide (l.length < 4))) := by
  have HL := Aside0.mk hl
  have HI := Aside0.mk hI
  have HB := Aside0.mk hB
  clear hl hI hB
  go_enter Try.func23, Try.ntmps23
  go_wp2
  go_loopw [3, 5] (fun v i wr => ∃ k : Nat, k ≤ 4 ∧ i = .int .i64 k ∧ v = .int .u32 (le k l) ∧ IsR w0 wr g (l.drop k) (bad || decide (l.length < k)) ∧ Below w0.heap.size w0 wr ∧ KeepBut w wr g none) (fun _ i _ => 4 - (intOf i).toNat)
  case atStart => exact ⟨0, by omega, rfl, rfl, by simpa using HI.out, HB.out, KeepBut.refl _ _ _⟩
  case round =>
    obtain ⟨k, hk, rfl, rfl, hI, hB, hK⟩ := hrel
    by_cases hlt : k < 4
    · go_wp2_with fail
      refine (one g (l.drop k) _ w0 _ hI hB).mono ?_
      rintro e w' ⟨rfl, hI2, hB2, hK2⟩
      have hv := le_bound HL.out k
      have hx := (HL.out.drop k).head
      have ho := or_byte k hlt hv hx
      have hd : (l.drop k).tail = l.drop (k + 1) := by rw [List.tail_drop]
      have hb : (bad || decide (l.length < k) || (l.drop k).isEmpty) = (bad || decide (l.length < k + 1)) := by
        have e : (l.drop k).isEmpty = decide (l.length ≤ k) := by
          rw [Bool.eq_iff_iff, List.isEmpty_iff, decide_eq_true_iff, List.drop_eq_nil_iff]
        rw [e, Bool.or_assoc, ← Bool.decide_or]
        congr 2
        rw [eq_iff_iff]
        omega
      rw [hd, hb] at hI2
      have hs : le (k + 1) l = le k l + (l.drop k).headD 0 * 256 ^ k := rfl
      have HO := Aside0.mk ho
      have HS := Aside0.mk hs
      have H1 := Aside0.mk hI2
      have H2 := Aside0.mk hB2
      have H3 := Aside0.mk (hK.trans hK2 (Or.inl rfl))
      clear ho hs hI2 hB2 hK2 hd hb hI hB hK
      generalize hy : (l.drop k).headD 0 = y at *
      have HY := Aside0.mk hy
      clear hy
      rcases (by omega : k = 0 ∨ k = 1 ∨ k = 2 ∨ k = 3) with rfl | rfl | rfl | rfl
      · go_wp2
        go_roundw
        case measure => simp [intOf]
        case rel => exact ⟨1, by decide, rfl, by rw [HS.out, ← HO.out]; simp, H1.out, H2.out, H3.out⟩
      · go_wp2
        go_roundw
        case measure => simp [intOf]
        case rel => exact ⟨2, by decide, rfl, by rw [HS.out, ← HO.out]; simp, H1.out, H2.out, H3.out⟩
      · go_wp2
        go_roundw
        case measure => simp [intOf]
        case rel => exact ⟨3, by decide, rfl, by rw [HS.out, ← HO.out]; simp, H1.out, H2.out, H3.out⟩
      · go_wp2
        go_roundw
        case measure => simp [intOf]
        case rel => exact ⟨4, by decide, rfl, by rw [HS.out, ← HO.out]; simp, H1.out, H2.out, H3.out⟩
    · go_wp2
      go_ret
      obtain rfl : k = 4 := by omega
      exact ⟨rfl, hI, hB, hK⟩
end Go.Proofs.Ytlhoaejkjhdlgaa.Reader
