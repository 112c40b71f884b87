/- Segments whose bytes' rows are named, not read: rows of them, and how they read. -/
import Derived.Test.YtcjaepmecihmlaaI0
import Derived.WalkKit
namespace Go.Proofs.Ytcjaepmecihmlaa.Raw
open Go Go.RowKit Go.Proofs.Ytcjaepmecihmlaa.Img Go.Proofs.YtcjaepmecihmlaaW.PrintWords Go.Proofs.YtcjaepmecihmlaaW.PrintLast Go.Proofs.YtcjaepmecihmlaaW.PrintMore
set_option linter.unusedVariables false
set_option linter.unusedSimpArgs false
/-- A segment's cells as they stand: its bytes' row is named, not read. -/
structure Raw where
  f0 : Int
  f1 : Int
  f2 : Int
  A : Option Addr
  n : Nat
  c : Nat
def kraw : Kd Raw := Kd.iso (Kd.pair (Kd.int .u32) (Kd.pair (Kd.int .u32) (Kd.pair (Kd.int .i64) (Kd.scalar (fun (x : Option Addr × Nat × Nat) => Value.slice x.1 x.2.1 x.2.2) (fun _ => rfl))))) (fun x : Raw => (x.f0, x.f1, x.f2, x.A, x.n, x.c))
def rcs (x : Raw) : List Value := [.int .u32 x.f0, .int .u32 x.f1, .int .i64 x.f2, .slice x.A x.n x.c]
theorem kraw_open {w : World} {x : Raw} {cs : List Value} (h : kraw.K w x cs) : cs = rcs x := by
  obtain ⟨_, _, rfl, rfl, ⟨_, _, rfl, rfl, ⟨_, _, rfl, rfl, rfl⟩⟩⟩ := h; rfl
theorem kraw_mk (w : World) (x : Raw) : kraw.K w x (rcs x) := ⟨[.int .u32 x.f0], [.int .u32 x.f1, .int .i64 x.f2, .slice x.A x.n x.c], rfl, rfl, ⟨[.int .u32 x.f1], [.int .i64 x.f2, .slice x.A x.n x.c], rfl, rfl, ⟨[.int .i64 x.f2], [.slice x.A x.n x.c], rfl, rfl, rfl⟩⟩⟩
theorem kraw_mkM (w : World) (base : Nat) (ok : Nat → Prop) (x : Raw) : kraw.M w base ok x (rcs x) := ⟨[.int .u32 x.f0], [.int .u32 x.f1, .int .i64 x.f2, .slice x.A x.n x.c], rfl, rfl, ⟨[.int .u32 x.f1], [.int .i64 x.f2, .slice x.A x.n x.c], rfl, rfl, ⟨[.int .i64 x.f2], [.slice x.A x.n x.c], rfl, rfl, rfl⟩⟩⟩
/-- A raw segment reads as this one. -/
def Fits (W : World) (z : Raw) (s : S30) : Prop := z.f0 = s.f0 ∧ z.f1 = s.f1 ∧ z.f2 = s.f2 ∧ z.n = s.f3.length ∧ z.n ≤ z.c ∧ Kd.C (Kd.int .u8) W z.A s.f3.length s.f3
def Fit2 (W : World) (zs : List Raw) (ys : List S30) : Prop := zs.length = ys.length ∧ ∀ (j : Nat) (z : Raw) (s : S30), zs[j]? = some z → ys[j]? = some s → Fits W z s
theorem Fit2.nil (W : World) : Fit2 W [] [] := ⟨rfl, fun j z s h => by simp at h⟩
theorem Fit2.snoc {W : World} {zs : List Raw} {ys : List S30} {z : Raw} {s : S30} (h : Fit2 W zs ys) (hz : Fits W z s) : Fit2 W (zs ++ [z]) (ys ++ [s]) := by
  refine ⟨by simp [h.1], fun j z' s' h1 h2 => ?_⟩
  by_cases hj : j < zs.length
  · rw [List.getElem?_append_left hj] at h1
    rw [List.getElem?_append_left (by rw [← h.1]; exact hj)] at h2
    exact h.2 j z' s' h1 h2
  · rw [List.getElem?_append_right (by omega)] at h1
    rw [List.getElem?_append_right (by rw [← h.1]; omega), ← h.1] at h2
    have h3 := (List.getElem?_eq_some_iff.1 h1).1
    have h4 : j - zs.length = 0 := by simp at h3; omega
    rw [h4] at h1 h2
    have e1 : z = z' := by simpa using h1
    have e2 : s = s' := by simpa using h2
    rw [← e1, ← e2]; exact hz
theorem raw_C {W w : World} {A : Option Addr} (zs : List Raw) (ys : List S30) (hb : Below W.heap.size W w) (h : Kd.C kraw w A zs.length zs) (hm : Fit2 W zs ys) : Kd.C k30 w A ys.length ys := by
  have hl := hm.1
  obtain ⟨h1, h2, h3⟩ := h
  refine ⟨rfl, by rw [← hl]; exact h2, fun hp => ?_⟩
  obtain ⟨ad, ha, hc⟩ := h3 (by rw [hl]; exact hp)
  refine ⟨ad, ha, fun j p hj => ?_⟩
  have hj2 : j < zs.length := by rw [hl]; exact (List.getElem?_eq_some_iff.1 hj).1
  obtain ⟨cs, k1, k2, k3⟩ := hc j zs[j] (List.getElem?_eq_getElem hj2)
  have ec := kraw_open k2
  subst ec
  obtain ⟨e0, e1, e2, e3, e4, e5⟩ := hm.2 j zs[j] p (List.getElem?_eq_getElem hj2) hj
  refine ⟨rcs zs[j], k1, ?_, k3⟩
  have := k30_mk w p (A3 := zs[j].A) (c3 := zs[j].c) (by omega) (Kd.C_below e5 hb)
  rw [rcs, e0, e1, e2, e3]; exact this
theorem one_C {w : World} {g : Nat} {t : TypeId} (x : Raw) (h : w.heap[g]? = some (.cells (rcs x).toArray t (0, 0))) : Kd.C kraw w (some ⟨g, 0, none⟩) 1 [x] := by
  refine ⟨rfl, by omega, fun _ => ⟨⟨g, 0, none⟩, rfl, fun j p hj => ⟨rcs x, rfl, ?_, fun i u hu => ?_⟩⟩⟩
  · have hj0 : j = 0 := by
      have := (List.getElem?_eq_some_iff.1 hj).1
      simp at this; omega
    subst hj0
    have : x = p := by simpa using hj
    rw [← this]; exact kraw_mk w x
  · have hj0 : j = 0 := by
      have := (List.getElem?_eq_some_iff.1 hj).1
      simp at this; omega
    subst hj0
    have hsz : kraw.sz = 4 := rfl
    rw [Nat.zero_mul, Nat.zero_add, add_plain, blk_cell h, ← Array.getElem?_toList]
    exact hu
theorem info30' : (Try.prog.info? 30).map (fun i => (i.zero, i.size, i.bytes)) = some (some (.agg #[(.int .u32 0), (.int .u32 0), (.int .i64 0), (.slice none 0 0)]), 4, 40) := by kernel_rfl
/-- A block of one segment is a row of one's own. -/
theorem one_R {w : World} {base h : Nat} (x : Raw) (hb : w.heap[h]? = some (.cells (rcs x).toArray 30 (0, 0))) (hl : base ≤ h) (ok : Nat → Prop) (hok : ok h) : Kd.R kraw 30 w base ok (.slice (some ⟨h, 0, none⟩) 1 1) [x] := by
  refine ⟨fun k hk => by have : h = k := by simpa [Value.ownBlock] using hk
                         rw [← this]; exact hok, rcs x, ⟨rfl, .inr ⟨h, 1, _, rfl, hl, hb, Nat.le_refl _, by unfold maxLen; omega, rfl, rfl⟩⟩, ⟨rfl, fun j p hj => ?_⟩⟩
  have hj0 : j = 0 := by
    have := (List.getElem?_eq_some_iff.1 hj).1
    simp at this; omega
  subst hj0
  have : x = p := by simpa using hj
  subst this
  exact kraw_mkM _ _ _ x
/-- Three bytes in a block. -/
theorem bytes_C {w : World} {g : Nat} (h : w.heap[g]? = some (.cells #[.int .u8 1, .int .u8 2, .int .u8 3] 5 (0, 0))) : Kd.C (Kd.int .u8) w (some ⟨g, 0, none⟩) 3 [1, 2, 3] := by
  refine ⟨rfl, by omega, fun _ => ⟨⟨g, 0, none⟩, rfl, fun j p hj => ⟨[.int .u8 p], rfl, rfl, fun i u hu => ?_⟩⟩⟩
  have hi : i = 0 := by
    have := (List.getElem?_eq_some_iff.1 hu).1
    simp at this; omega
  subst hi
  have hu' : u = .int .u8 p := by simpa using hu.symm
  subst hu'
  have hsz : (Kd.int .u8).sz = 1 := rfl
  rw [hsz, Nat.mul_one, Nat.add_zero, add_plain, blk_cell h]
  match j, hj with
  | 0, hj => cases hj; rfl
  | 1, hj => cases hj; rfl
  | 2, hj => cases hj; rfl
  | k + 3, hj => simp at hj
end Go.Proofs.Ytcjaepmecihmlaa.Raw
