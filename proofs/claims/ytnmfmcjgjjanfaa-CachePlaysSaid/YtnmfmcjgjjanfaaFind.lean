/- The closure of remove, slices.IndexFunc over it. -/
import Derived.Test.YtnmfmcjgjjanfaaPlace
import Derived.Test.YtnmfmcjgjjanfaaWEqStruct
import Derived.Test.YtnmfmcjgjjanfaaWLast
import Derived.Test.YtnmfmcjgjjanfaaWMore
namespace Go.Proofs.Ytnmfmcjgjjanfaa.Cache
open Go Go.RowKit Go.Proofs.YtnmfmcjgjjanfaaW.PrintWords Go.Proofs.YtnmfmcjgjjanfaaW.PrintLast Go.Proofs.YtnmfmcjgjjanfaaW.PrintMore
set_option linter.unusedVariables false
set_option linter.unusedSimpArgs false
abbrev K := Int × Int
def kv (k : K) : Value := .agg #[.int .u32 k.1, .int .i64 k.2]
theorem eqA75 (d : Nat) (w : World) (x0 y0 : Int) (x1 y1 : Int) :
    (Op.equalIn (d + 2) 75 (.agg #[.int .u32 x0, .int .i64 x1]) (.agg #[.int .u32 y0, .int .i64 y1])).run Try.prog w = .ok (x0 == y0 && (x1 == y1)) w := by
  refine eqA_of Try.underlying75 (by kernel_rfl) ?_
  refine eqf_cons (by rfl) (by go_simp; rfl) (by go_simp; rfl) (by go_simp) ?_
  exact eqf_last (by rfl) (by go_simp; rfl) (by go_simp; rfl) (by go_simp)
attribute [local go_sem high] eqA75
def kB (a b : K) : Bool := a.1 == b.1 && a.2 == b.2
theorem kB_iff (a b : K) : kB a b = true ↔ a = b := by
  unfold kB
  simp only [Bool.and_eq_true, beq_iff_eq]
  exact ⟨fun h => Prod.ext h.1 h.2, fun h => by rw [h]; exact ⟨rfl, rfl⟩⟩
set_option maxRecDepth 100000 in
theorem clos34 (x k : K) (kb : Nat) (w : World) (hk : w.heap[kb]? = some (.cells #[.int .u32 k.1, .int .i64 k.2] 75 (0, 0))) :
    Calls Try.prog 34 #[.agg #[.int .u32 x.1, .int .i64 x.2], .pointer (some ⟨kb, 0, none⟩)] w fun e w' => e = .returned (.bool (kB x k)) ∧ Below w.heap.size w w' := by
  obtain ⟨x0, x1⟩ := x
  obtain ⟨k0, k1⟩ := k
  unfold kB
  have c0 : (w.alloc (.cells #[.int .u32 x0, .int .i64 x1] 75)).cell? ⟨kb, 0, none⟩ = some (.int .u32 k0) := (blk_cell (blk_alloc hk _) 0).trans rfl
  have c1 : (w.alloc (.cells #[.int .u32 x0, .int .i64 x1] 75)).cell? ⟨kb, 1, none⟩ = some (.int .i64 k1) := (blk_cell (blk_alloc hk _) 1).trans rfl
  clear hk
  go_enter Try.func34, Try.ntmps34
  go_wp2
  go_ret
  exact ⟨rfl, (Below.refl _ _).alloc (Nat.le_refl _) _⟩
/-- The keys stand in block g. -/
def RowAt (w : World) (g : Nat) (ks : List K) : Prop := ∀ (i : Nat) (k : K), ks[i]? = some k → w.cell? ⟨g, i * 2, none⟩ = some (.int .u32 k.1) ∧ w.cell? ⟨g, i * 2 + 1, none⟩ = some (.int .i64 k.2)
theorem RowAt.below {w w' : World} {g : Nat} {ks : List K} (h : RowAt w g ks) (hb : Below w.heap.size w w') : RowAt w' g ks := fun i k hk =>
  ⟨(hb.cell (World.block_lt_of_cell? w _ (h i k hk).1)).trans (h i k hk).1, (hb.cell (World.block_lt_of_cell? w _ (h i k hk).2)).trans (h i k hk).2⟩
def idxOf (ks : List K) (k : K) : Int := match ks.findIdx? (fun x => kB x k) with | some i => (i : Int) | none => -1
def IdxE (ks : List K) (k : K) (w : World) (e : Ending) (w' : World) : Prop := e = .returned (.int .i64 (idxOf ks k)) ∧ Below w.heap.size w w'
set_option maxRecDepth 100000 in
theorem index_nil (k : K) (fv : Value) (w : World) : Calls Try.prog 41 #[.slice none 0 0, fv] w (IdxE [] k w) := by
  go_enter Try.func41, Try.ntmps41
  go_wp2
  go_loopw [5, 8] (fun v i wr => i = .int .i64 0 ∧ wr = w) (fun _ i _ => 0)
  case atStart => exact ⟨rfl, rfl⟩
  case round =>
    obtain ⟨rfl, rfl⟩ := hrel
    go_wp2
    go_ret
    exact ⟨rfl, Below.refl _ _⟩
theorem idx_at (ks : List K) (k : K) (q : Nat) (x : K) (hx : ks[q]? = some x) (ht : kB x k = true) (hp : ∀ (a : Nat) (y : K), a < q → ks[a]? = some y → kB y k = false) : idxOf ks k = (q : Int) := by
  have hlt : q < ks.length := (List.getElem?_eq_some_iff.1 hx).1
  have hxe : ks[q] = x := by rw [List.getElem?_eq_getElem hlt] at hx; exact Option.some.inj hx
  have e : ks.findIdx? (fun x => kB x k) = some q := by
    rw [List.findIdx?_eq_some_iff_getElem]
    exact ⟨hlt, by rw [hxe]; exact ht, fun a ha => by rw [hp a ks[a] ha (List.getElem?_eq_getElem (by omega))]; decide⟩
  unfold idxOf
  rw [e]
theorem idx_no (ks : List K) (k : K) (hp : ∀ (a : Nat) (y : K), ks[a]? = some y → kB y k = false) : idxOf ks k = -1 := by
  have e : ks.findIdx? (fun x => kB x k) = none := by
    rw [List.findIdx?_eq_none_iff]
    intro x hx
    obtain ⟨a, ha, rfl⟩ := List.getElem_of_mem hx
    rw [hp a _ (List.getElem?_eq_getElem ha)]
  unfold idxOf
  rw [e]
set_option maxRecDepth 100000 in
set_option maxHeartbeats 1000000 in
theorem index_row (ks : List K) (k : K) (g cap kb : Nat) (w : World) (hr : RowAt w g ks) (hn : ks.length ≤ 1000000) (hcap : ks.length ≤ cap) (hk : w.heap[kb]? = some (.cells #[.int .u32 k.1, .int .i64 k.2] 75 (0, 0))) :
    Calls Try.prog 41 #[.slice (some ⟨g, 0, none⟩) ks.length cap, .func (.func 34) #[] #[.pointer (some ⟨kb, 0, none⟩)]] w (IdxE ks k w) := by
  have HR := Lib.hid hr
  have HK := Lib.hid hk
  clear hr hk
  go_enter Try.func41, Try.ntmps41
  go_wp2
  go_loopw [8] (fun i wr => ∃ q : Nat, q ≤ ks.length ∧ i = .int .i64 q ∧ Hid (Below w.heap.size w wr) ∧ Hid (∀ (a : Nat) (y : K), a < q → ks[a]? = some y → kB y k = false)) (fun i _ => ks.length - (intOf i).toNat)
  case atStart => exact ⟨0, Nat.zero_le _, rfl, Lib.hid (Below.refl _ _), Lib.hid (fun a y h => absurd h (by omega))⟩
  case round =>
    obtain ⟨q, hq, rfl, HB, HA⟩ := hrel
    by_cases hlt : q < ks.length
    · obtain ⟨x, hx⟩ : ∃ x, ks[q]? = some x := ⟨_, List.getElem?_eq_getElem hlt⟩
      obtain ⟨c0, c1⟩ := HR.out.below HB.out q x hx
      have CL := clos34 x k kb wr (blk_below HK.out HB.out)
      have HX := Lib.hid hx
      clear hx
      obtain ⟨t, et⟩ : ∃ t, kB x k = t := ⟨_, rfl⟩
      rw [et] at CL
      have ET := Lib.hid et
      clear et
      cases t with
      | true =>
        go_wp2_with (go_at_call 34; refine CL.mono ?_; rintro e w1 ⟨rfl, hb1⟩)
        go_ret
        exact ⟨by rw [idx_at ks k q x HX.out ET.out HA.out]; rfl, below_step HB.out hb1⟩
      | false =>
        go_wp2_with (go_at_call 34; refine CL.mono ?_; rintro e w1 ⟨rfl, hb1⟩)
        go_roundw
        case rel => exact ⟨q + 1, by omega, by go_num, Lib.hid (below_step HB.out hb1), Lib.hid (fun a y ha hy => by
          rcases (by omega : a < q ∨ a = q) with h | h
          · exact HA.out a y h hy
          · rw [h] at hy; rw [HX.out] at hy; rw [← Option.some.inj hy]; exact ET.out)⟩
        case measure => simp [intOf]; omega
    · have hqe : q = ks.length := by omega
      have HQ := Lib.hid hqe
      clear hqe
      go_wp2
      go_ret
      exact ⟨by rw [idx_no ks k (fun a y hy => HA.out a y (by rw [HQ.out]; exact (List.getElem?_eq_some_iff.1 hy).1) hy)]; rfl, HB.out⟩
end Go.Proofs.Ytnmfmcjgjjanfaa.Cache
