/- Literal rows of none and of one, as rows of one's own. -/
import Derived.Test.YtnmfmcjgjjanfaaWWords
namespace Go.Proofs.Ytnmfmcjgjjanfaa.Lits
open Go Go.RowKit Go.Proofs.YtnmfmcjgjjanfaaW.PrintWords
theorem lit0_R {α : Type} (d : Kd α) (e : Nat) (w : World) (base q : Nat) (hb : base ≤ w.heap.size) (hq : q < w.heap.size) : Kd.R d e (w.alloc (.cells #[] e)) base (fun k => q < k) (.slice (some ⟨w.heap.size, 0, none⟩) 0 0) [] := by
  refine ⟨fun k hk => ?_, [], ?_, Reps.none _ _⟩
  · have : w.heap.size = k := by simpa [Value.ownBlock] using hk
    omega
  · simpa using World.ownsRow_lit (base := base) (e := e) (size := d.sz) w #[] 0 hb (by decide) (by simp)
theorem lit1_R {α : Type} (d : Kd α) (e : Nat) (x : α) (cs : Array Value) (w : World) (base q : Nat) (hs : cs.size = d.sz) (hm : ∀ w base ok, d.M w base ok x cs.toList) (hb : base ≤ w.heap.size) (hq : q < w.heap.size) : Kd.R d e (w.alloc (.cells cs e)) base (fun k => q < k) (.slice (some ⟨w.heap.size, 0, none⟩) 1 1) [x] := by
  refine ⟨fun k hk => ?_, cs.toList, ?_, ⟨by simpa using hs, fun j p hj => ?_⟩⟩
  · have : w.heap.size = k := by simpa [Value.ownBlock] using hk
    omega
  · simpa using World.ownsRow_lit (base := base) (e := e) (size := d.sz) w cs 1 hb (by decide) (by omega)
  · have hj0 : j = 0 := by
      have := (List.getElem?_eq_some_iff.1 hj).1
      simp at this; omega
    subst hj0
    have : x = p := by simpa using hj
    subst this
    have h2 : (cs.toList.drop (0 * d.sz)).take d.sz = cs.toList := by rw [Nat.zero_mul, List.drop_zero, List.take_of_length_le (by simp; omega)]
    rw [h2]
    exact hm _ _ _
theorem own_lt {b q k n c : Nat} (h : (Value.slice (some ⟨b, 0, none⟩) n c).ownBlock = some k) (hq : q < b) : q < k := by
  simp [Value.ownBlock] at h; omega
theorem own_ne {g b n c : Nat} (h : g ≠ b) : some g ≠ (Value.slice (some ⟨b, 0, none⟩) n c).ownBlock := by
  simp [Value.ownBlock]; omega
end Go.Proofs.Ytnmfmcjgjjanfaa.Lits
