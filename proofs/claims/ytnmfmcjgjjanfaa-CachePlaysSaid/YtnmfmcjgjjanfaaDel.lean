/- slices.DeleteFunc over remove's closure. -/
import Derived.Test.YtnmfmcjgjjanfaaFind
namespace Go.Proofs.Ytnmfmcjgjjanfaa.Cache
open Go Go.RowKit Go.Proofs.YtnmfmcjgjjanfaaW.PrintWords Go.Proofs.YtnmfmcjgjjanfaaW.PrintLast Go.Proofs.YtnmfmcjgjjanfaaW.PrintMore
set_option linter.unusedVariables false
set_option linter.unusedSimpArgs false
def CurAt (cur : Array Value) (ks : List K) : Prop := ∀ (i : Nat) (k : K), ks[i]? = some k → cur[i * 2]? = some (.int .u32 k.1) ∧ cur[i * 2 + 1]? = some (.int .i64 k.2)
theorem CurAt.row {cur : Array Value} {ks : List K} {w : World} {g : Nat} (h : CurAt cur ks) (hg : w.heap[g]? = some (.cells cur 75 (0, 0))) : RowAt w g ks := fun i k hk => ⟨(blk_cell hg _).trans (h i k hk).1, (blk_cell hg _).trans (h i k hk).2⟩
/-- The row in the middle of the shift: below q it is cut already, from q + 1 on as it was. -/
structure Shift (g : Nat) (ks : List K) (i0 q size : Nat) (w wr : World) : Prop where
  mod : Mod (· = g) w wr
  blk : ∃ cj : Array Value, wr.heap[g]? = some (.cells cj 75 (0, 0)) ∧ cj.size = size ∧
    (∀ (a : Nat) (x : K), a < q → (ks.eraseIdx i0)[a]? = some x → cj[a * 2]? = some (.int .u32 x.1) ∧ cj[a * 2 + 1]? = some (.int .i64 x.2)) ∧
    (∀ (a : Nat) (x : K), q < a → ks[a]? = some x → cj[a * 2]? = some (.int .u32 x.1) ∧ cj[a * 2 + 1]? = some (.int .i64 x.2))
theorem Shift.step {g : Nat} {ks : List K} {i0 q size : Nat} {w wr w1 : World} {x : K} (h : Shift g ks i0 q size w wr) (hi : i0 ≤ q) (hx : ks[q + 1]? = some x) (hs : ks.length * 2 ≤ size) (hb : Below wr.heap.size wr w1) :
    Shift g ks i0 (q + 1) size w ((w1.setCell ⟨g, q * 2, none⟩ (.int .u32 x.1)).setCell ⟨g, q * 2 + 1, none⟩ (.int .i64 x.2)) := by
  obtain ⟨cj, hg, hsz, h1, h2⟩ := h.blk
  have hq : q + 1 < ks.length := (List.getElem?_eq_some_iff.1 hx).1
  have hg1 : w1.heap[g]? = some (.cells cj 75 (0, 0)) := blk_below hg hb
  refine ⟨(((h.mod.trans (Mod.of_below hb))).set (Or.inl rfl) _).set (Or.inl rfl) _, _, blk_set (blk_set hg1 _ _) _ _, by simp [hsz], fun a y ha hy => ?_, fun a y ha hy => ?_⟩
  · by_cases e : a = q
    · subst e
      have : x = y := by
        rw [List.getElem?_eraseIdx, if_neg (by omega)] at hy
        rw [hx] at hy; exact Option.some.inj hy
      subst this
      constructor
      · rw [Array.getElem?_setIfInBounds_ne (by omega), Array.getElem?_setIfInBounds_self_of_lt (by omega)]
      · rw [Array.getElem?_setIfInBounds_self_of_lt (by simp; omega)]
    · obtain ⟨a1, a2⟩ := h1 a y (by omega) hy
      constructor
      · rw [Array.getElem?_setIfInBounds_ne (by omega), Array.getElem?_setIfInBounds_ne (by omega)]; exact a1
      · rw [Array.getElem?_setIfInBounds_ne (by omega), Array.getElem?_setIfInBounds_ne (by omega)]; exact a2
  · obtain ⟨a1, a2⟩ := h2 a y (by omega) hy
    constructor
    · rw [Array.getElem?_setIfInBounds_ne (by omega), Array.getElem?_setIfInBounds_ne (by omega)]; exact a1
    · rw [Array.getElem?_setIfInBounds_ne (by omega), Array.getElem?_setIfInBounds_ne (by omega)]; exact a2
theorem run_clear (g q c : Nat) (w : World) (cj : Array Value) (hg : w.heap[g]? = some (.cells cj 75 (0, 0))) (hq : q * 2 + 1 < cj.size) :
    (Builtin.clear_ #[68] 0 #[.slice (some ⟨g, q * 2, none⟩) 1 c]).run Try.prog w = .ok (.tuple #[]) ((w.setCell ⟨g, q * 2, none⟩ (.int .u32 0)).setCell ⟨g, q * 2 + 1, none⟩ (.int .i64 0)) := by
  have hz : (zeroValue 75).run Try.prog w = .ok (.agg #[.int .u32 0, .int .i64 0]) w := by kernel_rfl
  have e0 : w.cell? ⟨g, q * 2, none⟩ = some cj[q * 2] := (blk_cell hg _).trans (Array.getElem?_eq_getElem (by omega))
  have e1 : w.cell? ⟨g, q * 2 + 1, none⟩ = some cj[q * 2 + 1] := (blk_cell hg _).trans (Array.getElem?_eq_getElem (by omega))
  have f0 := blk_frozen hg (q * 2)
  have f1 := blk_frozen hg (q * 2 + 1)
  unfold Builtin.clear_
  have hu := Try.underlying68
  go_simp
  have hzc : (Builtin.zeroCells #[Value.int IntKind.u32 0, Value.int IntKind.i64 0] 1).toList = [Value.int IntKind.u32 0, Value.int IntKind.i64 0] := by simp [Builtin.zeroCells, List.range_succ]
  rw [hzc]
  unfold storeCells
  unfold storeCells
  unfold storeCells
  go_simp
/-- What DeleteFunc leaves of a row that holds the key. -/
def DelE (g cap size : Nat) (ks : List K) (w : World) (e : Ending) (w' : World) : Prop :=
  ∃ cur : Array Value, e = .returned (.slice (some ⟨g, 0, none⟩) ks.length cap) ∧ w'.heap[g]? = some (.cells cur 75 (0, 0)) ∧ cur.size = size ∧ CurAt cur ks ∧ Mod (· = g) w w'
theorem Shift.start {g : Nat} {ks : List K} {i0 : Nat} {w wr : World} {cur : Array Value} (hg : w.heap[g]? = some (.cells cur 75 (0, 0))) (hc : CurAt cur ks) (hb : Below w.heap.size w wr) : Shift g ks i0 i0 cur.size w wr := by
  refine ⟨Mod.of_below hb, cur, blk_below hg hb, rfl, fun a x ha hx => ?_, fun a x ha hx => hc a x hx⟩
  rw [List.getElem?_eraseIdx, if_pos (by omega)] at hx
  exact hc a x hx
set_option maxRecDepth 100000 in
set_option maxHeartbeats 2000000 in
theorem del_hit (ks : List K) (k : K) (g cap kb i0 : Nat) (cur : Array Value) (w : World) (hg : w.heap[g]? = some (.cells cur 75 (0, 0))) (hsz : cur.size = cap * 2) (hc : CurAt cur ks) (hn : ks.length ≤ 1000000) (hcap : ks.length ≤ cap)
    (hk : w.heap[kb]? = some (.cells #[.int .u32 k.1, .int .i64 k.2] 75 (0, 0))) (hne : kb ≠ g) (hi : idxOf ks k = (i0 : Int)) (hil : i0 < ks.length) (hone : ∀ (a : Nat) (y : K), i0 < a → ks[a]? = some y → kB y k = false) :
    Calls Try.prog 33 #[.slice (some ⟨g, 0, none⟩) ks.length cap, .func (.func 34) #[] #[.pointer (some ⟨kb, 0, none⟩)]] w (DelE g cap cur.size (ks.eraseIdx i0) w) := by
  have IX := index_row ks k g cap kb w (hc.row hg) hn hcap hk
  unfold IdxE at IX
  rw [hi] at IX
  have HG := Lib.hid hg
  have HS := Lib.hid hsz
  have HC := Lib.hid hc
  have HK := Lib.hid hk
  have H1 := Lib.hid hone
  have n1 : ((i0 : Int) == -1) = false := beq_eq_false_iff_ne.2 (by omega)
  clear hg hsz hc hk hone hi
  go_enter Try.func33, Try.ntmps33
  go_wp2_with (go_at_call 41; refine IX.mono ?_; rintro e w0 ⟨rfl, hb0⟩; have HB0 := Lib.hid hb0; clear hb0)
  go_loopw [5, 6] (fun i j wr => ∃ q : Nat, i0 ≤ q ∧ q + 1 ≤ ks.length ∧ i = .int .i64 q ∧ j = .int .i64 ((q : Int) + 1) ∧ Hid (Shift g ks i0 q cur.size w wr)) (fun _ j _ => ks.length - (intOf j).toNat)
  case atStart => exact ⟨i0, Nat.le_refl _, hil, rfl, rfl, Lib.hid (Shift.start HG.out HC.out HB0.out)⟩
  case round =>
    obtain ⟨q, hq0, hq1, rfl, rfl, SH⟩ := hrel
    by_cases hlt : q + 1 < ks.length
    · obtain ⟨x, hx⟩ : ∃ x, ks[q + 1]? = some x := ⟨_, List.getElem?_eq_getElem hlt⟩
      obtain ⟨cj, hg, hsz, h1, h2⟩ := SH.out.blk
      have c0 : wr.cell? ⟨g, (q + 1) * 2, none⟩ = some (.int .u32 x.1) := (blk_cell hg _).trans (h2 (q + 1) x (by omega) hx).1
      have c1 : wr.cell? ⟨g, (q + 1) * 2 + 1, none⟩ = some (.int .i64 x.2) := (blk_cell hg _).trans (h2 (q + 1) x (by omega) hx).2
      have hkr : (wr.alloc (.cells #[.int .u32 x.1, .int .i64 x.2] 75)).heap[kb]? = some (.cells #[.int .u32 k.1, .int .i64 k.2] 75 (0, 0)) := blk_alloc (SH.out.mod.blk HK.out hne) _
      have CL := clos34 x k kb _ hkr
      rw [H1.out (q + 1) x (by omega) hx] at CL
      have HSZ := HS.out
      have hB1 : cj.size = cap * 2 := by omega
      obtain ⟨u0, hu0⟩ : ∃ u, cj[q * 2]? = some u := ⟨_, Array.getElem?_eq_getElem (by omega)⟩
      obtain ⟨u1, hu1⟩ : ∃ u, cj[q * 2 + 1]? = some u := ⟨_, Array.getElem?_eq_getElem (by omega)⟩
      have HGJ := Lib.hid hg
      have HU0 := Lib.hid hu0
      have HU1 := Lib.hid hu1
      have HX := Lib.hid hx
      clear hg hsz h1 h2 hkr HSZ hB1 hu0 hu1 hx
      go_wp2_with (go_at_call 34; refine CL.mono ?_; rintro e w1 ⟨rfl, hb1⟩; have G1 := Lib.hid (blk_below (blk_alloc HGJ.out (.cells #[.int .u32 x.1, .int .i64 x.2] 75)) hb1); have b1 := Lib.hid (below_step (Below.alloc (Below.refl wr.heap.size wr) (Nat.le_refl _) (.cells #[.int .u32 x.1, .int .i64 x.2] 75)) hb1); have N1 := Lib.hid (blk_below (blk_new wr (.cells #[.int .u32 x.1, .int .i64 x.2] 75)) hb1); have d0 := (blk_cell N1.out 0).trans rfl; have d1 := (blk_cell N1.out 1).trans rfl; have e0 := (blk_cell G1.out (q * 2)).trans HU0.out; have e1 := (blk_cell G1.out (q * 2 + 1)).trans HU1.out; have f0 := blk_frozen G1.out (q * 2); have f1 := blk_frozen G1.out (q * 2 + 1); clear hb1)
      go_roundw
      case rel => exact ⟨q + 1, by omega, by omega, by go_num, by go_num, Lib.hid (SH.out.step hq0 HX.out (by have := HS.out; omega) b1.out)⟩
      case measure => simp [intOf]; omega
    · have hlen : ks.length = q + 1 := by omega
      obtain ⟨cj, hg, hsz, h1, h2⟩ := SH.out.blk
      clear h2
      have HSZ := HS.out
      have hcl := run_clear g q (cap - q) wr cj hg (by omega)
      have he : (ks.eraseIdx i0).length = q := by rw [List.length_eraseIdx, if_pos hil]; omega
      have HE := Lib.hid he
      have FIN : Hid (∃ cur2 : Array Value, ((wr.setCell ⟨g, q * 2, none⟩ (.int .u32 0)).setCell ⟨g, q * 2 + 1, none⟩ (.int .i64 0)).heap[g]? = some (.cells cur2 75 (0, 0)) ∧ cur2.size = cur.size ∧ CurAt cur2 (ks.eraseIdx i0) ∧ Mod (· = g) w ((wr.setCell ⟨g, q * 2, none⟩ (.int .u32 0)).setCell ⟨g, q * 2 + 1, none⟩ (.int .i64 0))) := by
        refine Lib.hid ⟨_, blk_set (blk_set hg _ _) _ _, by simp [hsz], fun a y hy => ?_, (SH.out.mod.set (Or.inl rfl) _).set (Or.inl rfl) _⟩
        have ha : a < q := by have := (List.getElem?_eq_some_iff.1 hy).1; omega
        obtain ⟨a1, a2⟩ := h1 a y ha hy
        constructor
        · rw [Array.getElem?_setIfInBounds_ne (by omega), Array.getElem?_setIfInBounds_ne (by omega)]; exact a1
        · rw [Array.getElem?_setIfInBounds_ne (by omega), Array.getElem?_setIfInBounds_ne (by omega)]; exact a2
      clear hg hsz h1 HSZ he
      go_wp2
      go_ret
      obtain ⟨cur2, f1, f2, f3, f4⟩ := FIN.out
      exact ⟨cur2, by rw [HE.out]; rfl, f1, f2, f3, f4⟩
set_option maxRecDepth 100000 in
set_option maxHeartbeats 2000000 in
theorem del_no (ks : List K) (k : K) (g cap kb : Nat) (cur : Array Value) (w : World) (hg : w.heap[g]? = some (.cells cur 75 (0, 0))) (hc : CurAt cur ks) (hn : ks.length ≤ 1000000) (hcap : ks.length ≤ cap)
    (hk : w.heap[kb]? = some (.cells #[.int .u32 k.1, .int .i64 k.2] 75 (0, 0))) (hi : idxOf ks k = -1) :
    Calls Try.prog 33 #[.slice (some ⟨g, 0, none⟩) ks.length cap, .func (.func 34) #[] #[.pointer (some ⟨kb, 0, none⟩)]] w fun e w' => e = .returned (.slice (some ⟨g, 0, none⟩) ks.length cap) ∧ Below w.heap.size w w' := by
  have IX := index_row ks k g cap kb w (hc.row hg) hn hcap hk
  unfold IdxE at IX
  rw [hi] at IX
  clear hg hc hn hcap hk hi
  go_enter Try.func33, Try.ntmps33
  go_wp2_with (go_at_call 41; refine IX.mono ?_; rintro e w0 ⟨rfl, hb0⟩)
  go_ret
  exact ⟨rfl, hb0⟩
set_option maxRecDepth 100000 in
theorem del_nil (k : K) (fv : Value) (w : World) : Calls Try.prog 33 #[.slice none 0 0, fv] w fun e w' => e = .returned (.slice none 0 0) ∧ Below w.heap.size w w' := by
  have IX := index_nil k fv w
  unfold IdxE at IX
  have h : idxOf [] k = -1 := rfl
  rw [h] at IX
  go_enter Try.func33, Try.ntmps33
  go_wp2_with (go_at_call 41; refine IX.mono ?_; rintro e w0 ⟨rfl, hb0⟩)
  go_ret
  exact ⟨rfl, hb0⟩
end Go.Proofs.Ytnmfmcjgjjanfaa.Cache
