/- What Good's closure, slices.IndexFunc and slices.ContainsFunc over it answer. -/
import Derived.Test.YtefijnbhdjpfpaaDoorI0
import Derived.Lib.Hide
namespace Go.Proofs.YtefijnbhdjpfpaaDoor.Ir
open Go Go.RowKit Go.Proofs.YtefijnbhdjpfpaaDoorW.PrintWords Go.Proofs.YtefijnbhdjpfpaaDoorW.PrintLast Go.Proofs.YtefijnbhdjpfpaaDoorW.PrintMore
set_option linter.unusedVariables false
set_option linter.unusedSimpArgs false
/-- The array of 256 bools stands in block b and reads as th. -/
structure There (w : World) (b : Nat) (th : Int → Bool) : Prop where mk ::
  out : ∃ cs : Array Value, w.heap[b]? = some (.cells cs 45 (0, 0)) ∧ cs.size = 256 ∧ ∀ i : Int, 0 ≤ i → i < 256 → cs[i.toNat]? = some (.bool (th i))
theorem There.cell {w : World} {b : Nat} {th : Int → Bool} (h : There w b th) (i : Int) (h0 : 0 ≤ i) (h1 : i < 256) : w.cell? ⟨b, i.toNat, none⟩ = some (.bool (th i)) := by
  obtain ⟨cs, hb, hs, hc⟩ := h.out
  exact (blk_cell hb _).trans (hc i h0 h1)
theorem There.below {w w' : World} {b : Nat} {th : Int → Bool} (h : There w b th) (hb : Below w.heap.size w w') : There w' b th := by
  obtain ⟨cs, h1, hs, hc⟩ := h.out
  refine ⟨⟨cs, ?_, hs, hc⟩⟩
  rw [hb.block b (Array.getElem?_eq_some_iff.1 h1).1]; exact h1
def SomeBool (p : Bool) (w : World) (e : Ending) (w' : World) : Prop := e = .returned (.bool p) ∧ w = w'
set_option maxRecDepth 100000 in
theorem good1 (b : Nat) (th : Int → Bool) (t : Int) (w : World) (hb : There w b th) (h0 : 0 ≤ t) (h1 : t < 256) :
    Calls Tryd.prog 22 #[.int .i64 t, .pointer (some ⟨b, 0, none⟩)] w (SomeBool (!th t) w) := by
  have hc := hb.cell t h0 h1
  clear hb
  go_enter Tryd.func22, Tryd.ntmps22
  go_wp2
  go_ret
  exact ⟨rfl, rfl⟩
def SomeIdx (th : Int → Bool) (xs : List Int) (w : World) (e : Ending) (w' : World) : Prop := ∃ n : Int, e = .returned (.int .i64 n) ∧ decide (0 ≤ n) = xs.any (fun t => !th t) ∧ w = w'
theorem any_at (th : Int → Bool) (xs : List Int) (k : Nat) (hk : k < xs.length) (h : th (xs.getD k 0) = false) : decide (0 ≤ ((k : Nat) : Int)) = xs.any (fun t => !th t) := by
  have e : xs.any (fun t => !th t) = true := by
    rw [List.any_eq_true]
    refine ⟨xs.getD k 0, ?_, by rw [h]; rfl⟩
    rw [List.getD_eq_getElem?_getD, List.getElem?_eq_getElem hk]
    exact List.getElem_mem hk
  rw [e]; exact decide_eq_true (by omega)
theorem any_none (th : Int → Bool) (xs : List Int) (h : ∀ j, j < xs.length → th (xs.getD j 0) = true) : decide (0 ≤ (-1 : Int)) = xs.any (fun t => !th t) := by
  have e : xs.any (fun t => !th t) = false := by
    rw [List.any_eq_false]
    intro x hx
    obtain ⟨j, hj, rfl⟩ := List.getElem_of_mem hx
    have := h j hj
    rw [List.getD_eq_getElem?_getD, List.getElem?_eq_getElem hj] at this
    simp at this
    simp [this]
  rw [e]; rfl
set_option maxRecDepth 100000 in
set_option maxHeartbeats 1000000 in
theorem indexFunc (A : Option Addr) (c b : Nat) (th : Int → Bool) (xs : List Int) (w : World) (hb : There w b th) (hr : Kd.C (Kd.int .i64) w A xs.length xs) (hc : xs.length ≤ c) (hn : xs.length ≤ 1000)
    (hx : ∀ j, j < xs.length → 0 ≤ xs.getD j 0 ∧ xs.getD j 0 < 256) :
    Calls Tryd.prog 31 #[.slice A xs.length c, .func (.func 22) #[] #[.pointer (some ⟨b, 0, none⟩)]] w (SomeIdx th xs w) := by
  have HB := Lib.hid hb
  have HR := Lib.hid hr
  have HX := Lib.hid hx
  clear hb hr hx
  go_enter Tryd.func31, Tryd.ntmps31
  go_wp2
  go_loop [5, 8] (fun v i => ∃ k : Nat, k ≤ xs.length ∧ i = .int .i64 k ∧ ∀ j, j < k → th (xs.getD j 0) = true) (fun _ i => xs.length - (intOf i).toNat)
  case atStart => exact ⟨0, Nat.zero_le _, rfl, fun j hj => absurd hj (by omega)⟩
  case round =>
    obtain ⟨k, hk, rfl, ha⟩ := hrel
    have HA := Lib.hid ha
    clear ha
    by_cases hlt : k < xs.length
    · obtain ⟨ad, cs, rfl, _, hK, hcell⟩ := Kd.C_get HR.out 0 k (by omega) (by omega)
      obtain ⟨t, et⟩ : ∃ t, t = xs.getD k 0 := ⟨_, rfl⟩
      have hcl : w.cell? (ad.add k) = some (.int .i64 t) := by
        have := hcell 0 (.int .i64 t) (by rw [hK, et]; rfl)
        have e : (Kd.int .i64).sz = 1 := rfl
        rw [e] at this
        simpa using this
      clear hcell hK
      obtain ⟨h0, h1⟩ := HX.out k hlt
      rw [← et] at h0 h1
      have ET := Lib.hid et
      clear et
      by_cases ht : th t = true
      · go_wp2_with (go_at_call 22; refine (good1 b th _ _ HB.out h0 h1).mono ?_; rintro e w' ⟨rfl, rfl⟩)
        go_round
        case rel => exact ⟨k + 1, by omega, by go_num, fun j hj => by
          rcases (by omega : j < k ∨ j = k) with h | h
          · exact HA.out j h
          · rw [h, ← ET.out]; exact ht⟩
        case measure => simp [intOf]; omega
      · replace ht : th t = false := by simpa using ht
        go_wp2_with (go_at_call 22; refine (good1 b th _ _ HB.out h0 h1).mono ?_; rintro e w' ⟨rfl, rfl⟩)
        go_ret
        exact ⟨k, rfl, any_at th xs k hlt (by rw [← ET.out]; exact ht), rfl⟩
    · have he : k = xs.length := by omega
      have hE := Lib.hid he
      clear he
      go_wp2
      go_ret
      exact ⟨-1, rfl, any_none th xs (fun j hj => HA.out j (by rw [hE.out]; exact hj)), rfl⟩
set_option maxRecDepth 100000 in
set_option maxHeartbeats 1000000 in
theorem containsFunc (A : Option Addr) (c b : Nat) (th : Int → Bool) (xs : List Int) (w : World) (hb : There w b th) (hr : Kd.C (Kd.int .i64) w A xs.length xs) (hc : xs.length ≤ c) (hn : xs.length ≤ 1000)
    (hx : ∀ j, j < xs.length → 0 ≤ xs.getD j 0 ∧ xs.getD j 0 < 256) :
    Calls Tryd.prog 21 #[.slice A xs.length c, .func (.func 22) #[] #[.pointer (some ⟨b, 0, none⟩)]] w (SomeBool (xs.any (fun t => !th t)) w) := by
  have C := indexFunc A c b th xs w hb hr hc hn hx
  clear hb hr hc hn hx
  obtain ⟨r, er⟩ : ∃ r, r = xs.any (fun t => !th t) := ⟨_, rfl⟩
  rw [← er]
  have ER := Lib.hid er
  clear er
  go_enter Tryd.func21, Tryd.ntmps21
  go_wp2_with (go_at_call 31; refine C.mono ?_; rintro e w' ⟨n, rfl, hn, rfl⟩; rw [← ER.out] at hn)
  go_ret
  exact ⟨by rw [← hn]; rfl, rfl⟩
end Go.Proofs.YtefijnbhdjpfpaaDoor.Ir
