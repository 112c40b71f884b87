/- What shifted answers: each place by one relation. -/
import Derived.Test.YtbhoijkamnaopaaTagSrc
import Derived.LoopTactic
import Derived.StillTailTactics
import Derived.BigRegion
import Derived.LoopN
import Derived.Deep.RegionHeld3
import Derived.Lib.Hide
namespace Go.Proofs.Ytbhoijkamnaopaa.Tag
open Go Go.RowKit Go.Proofs.YtbhoijkamnaopaaW.PrintWords Go.Proofs.YtbhoijkamnaopaaW.PrintLast Go.Proofs.YtbhoijkamnaopaaW.PrintMore
set_option linter.unusedVariables false
set_option linter.unusedSimpArgs false
/-- Labels of four bytes. -/
abbrev T4 := Int × Int × Int × Int
def tagOf (t : T4) : Value := .agg #[.int .u8 t.1, .int .u8 t.2.1, .int .u8 t.2.2.1, .int .u8 t.2.2.2]
def cellsT (t : T4) : Obj := .cells #[.int .u8 t.1, .int .u8 t.2.1, .int .u8 t.2.2.1, .int .u8 t.2.2.2] 24
def or8 (a b : Int) : Int := bits .or .u8 a b
def getT (t : T4) : Nat → Int | 0 => t.1 | 1 => t.2.1 | 2 => t.2.2.1 | _ => t.2.2.2
def orT (t : T4) (q : Nat) (v : Int) : T4 := match q with
  | 0 => (or8 t.1 v, t.2.1, t.2.2.1, t.2.2.2)
  | 1 => (t.1, or8 t.2.1 v, t.2.2.1, t.2.2.2)
  | 2 => (t.1, t.2.1, or8 t.2.2.1 v, t.2.2.2)
  | _ => (t.1, t.2.1, t.2.2.1, or8 t.2.2.2 v)
def shStep (kind by_ : Int) (s : T4) (k : Nat) (x : T4) : T4 := if 0 ≤ srcI kind (k : Int) by_ ∧ srcI kind (k : Int) by_ < 32 then orT x (k / 8) (getT s (srcI kind (k : Int) by_ / 8).toNat) else x
def shAcc (kind by_ : Int) (s : T4) : Nat → T4
  | 0 => (0, 0, 0, 0)
  | k + 1 => shStep kind by_ s k (shAcc kind by_ s k)
theorem sh_in {kind by_ : Int} {s : T4} {k : Nat} {x : T4} (q p : Nat) (f : Int) (hs : srcI kind (k : Int) by_ = f) (h0 : 0 ≤ f) (h1 : f < 32) (hq : k / 8 = q) (hp : (f / 8).toNat = p) (hx : shAcc kind by_ s k = x) : shAcc kind by_ s (k + 1) = orT x q (getT s p) := by
  show shStep kind by_ s k (shAcc kind by_ s k) = _
  unfold shStep
  rw [hs, if_pos ⟨h0, h1⟩, hx, hq, hp]
theorem sh_out {kind by_ : Int} {s : T4} {k : Nat} {x : T4} (f : Int) (hs : srcI kind (k : Int) by_ = f) (h : ¬ (0 ≤ f ∧ f < 32)) (hx : shAcc kind by_ s k = x) : shAcc kind by_ s (k + 1) = x := by
  show shStep kind by_ s k (shAcc kind by_ s k) = _
  unfold shStep
  rw [hs, if_neg h, hx]
set_option maxRecDepth 100000 in
set_option maxHeartbeats 4000000 in
theorem shifted2 (by_ a0 a1 a2 a3 : Int) (w : World) (q0 : 0 ≤ by_) (q1 : by_ < 32) : Calls Try.prog 28 #[.int .i64 2, .int .i64 by_, .agg #[.int .u8 a0, .int .u8 a1, .int .u8 a2, .int .u8 a3]] w (Ret (tagOf (shAcc 2 by_ (a0, a1, a2, a3) 32)) (((w.alloc (.cells #[.int .u8 a0, .int .u8 a1, .int .u8 a2, .int .u8 a3] 24)).alloc (cellsT (shAcc 2 by_ (a0, a1, a2, a3) 32))).alloc (cellsT (shAcc 2 by_ (a0, a1, a2, a3) 32)))) := by
  go_enter Try.func28, Try.ntmps28
  go_wp2
  go_loopw [11] (fun c wr => ∃ k : Nat, k ≤ 32 ∧ c = .int .i64 k ∧ ∃ (n : Nat) (x0 x1 x2 x3 : Int), wr = (((w.alloc (.cells #[.int .u8 a0, .int .u8 a1, .int .u8 a2, .int .u8 a3] 24)).alloc (.cells #[.int .u8 0, .int .u8 0, .int .u8 0, .int .u8 0] 24)).alloc (.cells #[.int .u8 x0, .int .u8 x1, .int .u8 x2, .int .u8 x3] 24)).drewN n ∧ Hid (shAcc 2 by_ (a0, a1, a2, a3) k = (x0, x1, x2, x3))) (fun c _ => 32 - (intOf c).toNat)
  case atStart => exact ⟨0, by omega, rfl, 0, 0, 0, 0, 0, rfl, Lib.hid rfl⟩
  case round =>
    obtain ⟨k, hk, rfl, n, x0, x1, x2, x3, rfl, HX⟩ := hrel
    by_cases hlt : k < 32
    · by_cases hs : by_ ≤ (k : Int)
      · have hq : ((k : Int) / 8 = 0 ∧ k / 8 = 0) ∨ ((k : Int) / 8 = 1 ∧ k / 8 = 1) ∨ ((k : Int) / 8 = 2 ∧ k / 8 = 2) ∨ ((k : Int) / 8 = 3 ∧ k / 8 = 3) := by omega
        have hp : (((k : Int) - by_) / 8 = 0) ∨ (((k : Int) - by_) / 8 = 1) ∨ (((k : Int) - by_) / 8 = 2) ∨ (((k : Int) - by_) / 8 = 3) := by omega
        have sr : srcI 2 (k : Int) by_ = (k : Int) - by_ := by unfold srcI; rw [if_pos rfl]
        have SR := Lib.hid sr
        clear sr
        rcases hq with ⟨hq, hq'⟩ | ⟨hq, hq'⟩ | ⟨hq, hq'⟩ | ⟨hq, hq'⟩ <;> rcases hp with hp | hp | hp | hp
        all_goals try (exfalso; omega)
        all_goals
          have HN := Lib.hid (sh_in _ _ _ SR.out (by omega) (by omega) hq' (by rw [hp]) HX.out)
          clear hq'
          go_wp2_with (go_at_call 32; refine (src2_in _ _ _ (by omega) (by omega) q0 q1 hs).mono ?_; rintro e w' ⟨rfl, rfl⟩)
          go_region
          go_wp2
          go_roundw
          case rel => exact ⟨k + 1, by omega, by go_num, _, _, _, _, _, rfl, Lib.hid HN.out⟩
          case measure => simp [intOf]; omega
      · have hs' : (k : Int) < by_ := by omega
        have sr : srcI 2 (k : Int) by_ = (k : Int) - by_ := by unfold srcI; rw [if_pos rfl]
        have HN := Lib.hid (sh_out _ sr (by omega) HX.out)
        clear sr hs
        go_wp2_with (go_at_call 32; refine (src2_lo _ _ _ (by omega) (by omega) q0 q1 hs').mono ?_; rintro e w' ⟨rfl, rfl⟩)
        go_roundw
        case rel => exact ⟨k + 1, by omega, by go_num, _, _, _, _, _, rfl, Lib.hid HN.out⟩
        case measure => simp [intOf]; omega
    · obtain rfl : k = 32 := by omega
      clear hlt hk
      go_wp2
      have hv := HX.out
      refine bodyPost_ret (v := .agg #[.int .u8 x0, .int .u8 x1, .int .u8 x2, .int .u8 x3]) (by simp [results, Try.results28, go_sem]) rfl ?_
      rw [hv]
      exact ⟨rfl, n, rfl⟩
set_option maxRecDepth 100000 in
set_option maxHeartbeats 4000000 in
theorem shifted6 (by_ a0 a1 a2 a3 : Int) (w : World) (q0 : 0 ≤ by_) (q1 : by_ < 32) : Calls Try.prog 28 #[.int .i64 6, .int .i64 by_, .agg #[.int .u8 a0, .int .u8 a1, .int .u8 a2, .int .u8 a3]] w (Ret (tagOf (shAcc 6 by_ (a0, a1, a2, a3) 32)) (((w.alloc (.cells #[.int .u8 a0, .int .u8 a1, .int .u8 a2, .int .u8 a3] 24)).alloc (cellsT (shAcc 6 by_ (a0, a1, a2, a3) 32))).alloc (cellsT (shAcc 6 by_ (a0, a1, a2, a3) 32)))) := by
  go_enter Try.func28, Try.ntmps28
  go_wp2
  go_loopw [11] (fun c wr => ∃ k : Nat, k ≤ 32 ∧ c = .int .i64 k ∧ ∃ (n : Nat) (x0 x1 x2 x3 : Int), wr = (((w.alloc (.cells #[.int .u8 a0, .int .u8 a1, .int .u8 a2, .int .u8 a3] 24)).alloc (.cells #[.int .u8 0, .int .u8 0, .int .u8 0, .int .u8 0] 24)).alloc (.cells #[.int .u8 x0, .int .u8 x1, .int .u8 x2, .int .u8 x3] 24)).drewN n ∧ Hid (shAcc 6 by_ (a0, a1, a2, a3) k = (x0, x1, x2, x3))) (fun c _ => 32 - (intOf c).toNat)
  case atStart => exact ⟨0, by omega, rfl, 0, 0, 0, 0, 0, rfl, Lib.hid rfl⟩
  case round =>
    obtain ⟨k, hk, rfl, n, x0, x1, x2, x3, rfl, HX⟩ := hrel
    by_cases hlt : k < 32
    · by_cases hs : (k : Int) + by_ < 32
      · have hq : ((k : Int) / 8 = 0 ∧ k / 8 = 0) ∨ ((k : Int) / 8 = 1 ∧ k / 8 = 1) ∨ ((k : Int) / 8 = 2 ∧ k / 8 = 2) ∨ ((k : Int) / 8 = 3 ∧ k / 8 = 3) := by omega
        have hp : (((k : Int) + by_) / 8 = 0) ∨ (((k : Int) + by_) / 8 = 1) ∨ (((k : Int) + by_) / 8 = 2) ∨ (((k : Int) + by_) / 8 = 3) := by omega
        have sr : srcI 6 (k : Int) by_ = (k : Int) + by_ := by unfold srcI; rw [if_neg (by decide), if_neg (by decide)]
        have SR := Lib.hid sr
        clear sr
        rcases hq with ⟨hq, hq'⟩ | ⟨hq, hq'⟩ | ⟨hq, hq'⟩ | ⟨hq, hq'⟩ <;> rcases hp with hp | hp | hp | hp
        all_goals try (exfalso; omega)
        all_goals
          have HN := Lib.hid (sh_in _ _ _ SR.out (by omega) (by omega) hq' (by rw [hp]) HX.out)
          clear hq'
          go_wp2_with (go_at_call 32; refine (src6_in _ _ _ (by omega) (by omega) q0 q1 hs).mono ?_; rintro e w' ⟨rfl, rfl⟩)
          go_region
          go_wp2
          go_roundw
          case rel => exact ⟨k + 1, by omega, by go_num, _, _, _, _, _, rfl, Lib.hid HN.out⟩
          case measure => simp [intOf]; omega
      · have hs' : 32 ≤ (k : Int) + by_ := by omega
        have sr : srcI 6 (k : Int) by_ = (k : Int) + by_ := by unfold srcI; rw [if_neg (by decide), if_neg (by decide)]
        have HN := Lib.hid (sh_out _ sr (by omega) HX.out)
        clear sr hs
        go_wp2_with (go_at_call 32; refine (src6_hi _ _ _ (by omega) (by omega) q0 q1 hs').mono ?_; rintro e w' ⟨rfl, rfl⟩)
        go_roundw
        case rel => exact ⟨k + 1, by omega, by go_num, _, _, _, _, _, rfl, Lib.hid HN.out⟩
        case measure => simp [intOf]; omega
    · obtain rfl : k = 32 := by omega
      clear hlt hk
      go_wp2
      have hv := HX.out
      refine bodyPost_ret (v := .agg #[.int .u8 x0, .int .u8 x1, .int .u8 x2, .int .u8 x3]) (by simp [results, Try.results28, go_sem]) rfl ?_
      rw [hv]
      exact ⟨rfl, n, rfl⟩
set_option maxRecDepth 100000 in
set_option maxHeartbeats 4000000 in
theorem shifted7 (by_ a0 a1 a2 a3 : Int) (w : World) (q0 : 0 ≤ by_) (q1 : by_ < 32) : Calls Try.prog 28 #[.int .i64 7, .int .i64 by_, .agg #[.int .u8 a0, .int .u8 a1, .int .u8 a2, .int .u8 a3]] w (Ret (tagOf (shAcc 7 by_ (a0, a1, a2, a3) 32)) (((w.alloc (.cells #[.int .u8 a0, .int .u8 a1, .int .u8 a2, .int .u8 a3] 24)).alloc (cellsT (shAcc 7 by_ (a0, a1, a2, a3) 32))).alloc (cellsT (shAcc 7 by_ (a0, a1, a2, a3) 32)))) := by
  go_enter Try.func28, Try.ntmps28
  go_wp2
  go_loopw [11] (fun c wr => ∃ k : Nat, k ≤ 32 ∧ c = .int .i64 k ∧ ∃ (n : Nat) (x0 x1 x2 x3 : Int), wr = (((w.alloc (.cells #[.int .u8 a0, .int .u8 a1, .int .u8 a2, .int .u8 a3] 24)).alloc (.cells #[.int .u8 0, .int .u8 0, .int .u8 0, .int .u8 0] 24)).alloc (.cells #[.int .u8 x0, .int .u8 x1, .int .u8 x2, .int .u8 x3] 24)).drewN n ∧ Hid (shAcc 7 by_ (a0, a1, a2, a3) k = (x0, x1, x2, x3))) (fun c _ => 32 - (intOf c).toNat)
  case atStart => exact ⟨0, by omega, rfl, 0, 0, 0, 0, 0, rfl, Lib.hid rfl⟩
  case round =>
    obtain ⟨k, hk, rfl, n, x0, x1, x2, x3, rfl, HX⟩ := hrel
    by_cases hlt : k < 32
    · by_cases hs : (k : Int) + by_ ≤ 31
      · have hq : ((k : Int) / 8 = 0 ∧ k / 8 = 0) ∨ ((k : Int) / 8 = 1 ∧ k / 8 = 1) ∨ ((k : Int) / 8 = 2 ∧ k / 8 = 2) ∨ ((k : Int) / 8 = 3 ∧ k / 8 = 3) := by omega
        have hp : (((k : Int) + by_) / 8 = 0) ∨ (((k : Int) + by_) / 8 = 1) ∨ (((k : Int) + by_) / 8 = 2) ∨ (((k : Int) + by_) / 8 = 3) := by omega
        have sr : srcI 7 (k : Int) by_ = (k : Int) + by_ := by unfold srcI; rw [if_neg (by decide), if_pos rfl, if_neg (by omega)]
        have SR := Lib.hid sr
        clear sr
        rcases hq with ⟨hq, hq'⟩ | ⟨hq, hq'⟩ | ⟨hq, hq'⟩ | ⟨hq, hq'⟩ <;> rcases hp with hp | hp | hp | hp
        all_goals try (exfalso; omega)
        all_goals
          have HN := Lib.hid (sh_in _ _ _ SR.out (by omega) (by omega) hq' (by rw [hp]) HX.out)
          clear hq'
          go_wp2_with (go_at_call 32; refine (src7_in _ _ _ (by omega) (by omega) q0 q1 hs).mono ?_; rintro e w' ⟨rfl, rfl⟩)
          go_region
          go_wp2
          go_roundw
          case rel => exact ⟨k + 1, by omega, by go_num, _, _, _, _, _, rfl, Lib.hid HN.out⟩
          case measure => simp [intOf]; omega
      · have hs' : 31 < (k : Int) + by_ := by omega
        have hq : ((k : Int) / 8 = 0 ∧ k / 8 = 0) ∨ ((k : Int) / 8 = 1 ∧ k / 8 = 1) ∨ ((k : Int) / 8 = 2 ∧ k / 8 = 2) ∨ ((k : Int) / 8 = 3 ∧ k / 8 = 3) := by omega
        have sr : srcI 7 (k : Int) by_ = 31 := by unfold srcI; rw [if_neg (by decide), if_pos rfl, if_pos hs']
        have SR := Lib.hid sr
        clear sr hs
        rcases hq with ⟨hq, hq'⟩ | ⟨hq, hq'⟩ | ⟨hq, hq'⟩ | ⟨hq, hq'⟩
        all_goals
          have HN := Lib.hid (sh_in _ 3 _ SR.out (by omega) (by omega) hq' rfl HX.out)
          clear hq'
          go_wp2_with (go_at_call 32; refine (src7_hi _ _ _ (by omega) (by omega) q0 q1 hs').mono ?_; rintro e w' ⟨rfl, rfl⟩)
          go_region
          go_wp2
          go_roundw
          case rel => exact ⟨k + 1, by omega, by go_num, _, _, _, _, _, rfl, Lib.hid HN.out⟩
          case measure => simp [intOf]; omega
    · obtain rfl : k = 32 := by omega
      clear hlt hk
      go_wp2
      have hv := HX.out
      refine bodyPost_ret (v := .agg #[.int .u8 x0, .int .u8 x1, .int .u8 x2, .int .u8 x3]) (by simp [results, Try.results28, go_sem]) rfl ?_
      rw [hv]
      exact ⟨rfl, n, rfl⟩
end Go.Proofs.Ytbhoijkamnaopaa.Tag
