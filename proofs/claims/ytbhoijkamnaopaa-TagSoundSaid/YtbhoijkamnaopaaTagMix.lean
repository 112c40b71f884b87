/- What mix answers. -/
import Derived.Test.YtbhoijkamnaopaaTagC
import Derived.LoopTactic
import Derived.StillTailTactics
import Derived.BigRegion
import Derived.LoopN
import Derived.Deep.RegionHeld3
import Derived.Lib.Hide
namespace Go.Proofs.Ytbhoijkamnaopaa.Tag
open Go Go.RowKit Go.Proofs.YtbhoijkamnaopaaW.PrintWords Go.Proofs.YtbhoijkamnaopaaW.PrintLast Go.Proofs.YtbhoijkamnaopaaW.PrintMore
set_option linter.unusedVariables false
set_option linter.unusedSimpArgs false
/-- A number whose labelled bytes are another's. -/
def mskI : Nat → Int | 0 => 255 | 1 => 65280 | 2 => 16711680 | _ => 4278190080
def pickI (s l a o : Int) : Int := if bits .and .u8 s l = 0 then a else o
def mixA (a o l : Int) (s : T4) : Nat → Int
  | 0 => 0
  | k + 1 => bits .or .u32 (mixA a o l s k) (bits .and .u32 (pickI (getT s k) l a o) (mskI k))
set_option maxRecDepth 100000 in
set_option maxHeartbeats 4000000 in
theorem mix15 (a o l a0 a1 a2 a3 : Int) (w : World) : Calls Try.prog 15 #[.int .u32 a, .int .u32 o, .agg #[.int .u8 a0, .int .u8 a1, .int .u8 a2, .int .u8 a3], .int .u8 l] w (Ret (.int .u32 (mixA a o l (a0, a1, a2, a3) 4)) (w.alloc (.cells #[.int .u8 a0, .int .u8 a1, .int .u8 a2, .int .u8 a3] 24))) := by
  go_enter Try.func15, Try.ntmps15
  go_wp2
  go_loop [9, 10] (fun v c => ∃ k : Int, 0 ≤ k ∧ k ≤ 4 ∧ c = .int .i64 k ∧ ∃ x : Int, v = .int .u32 x ∧ Hid (mixA a o l (a0, a1, a2, a3) k.toNat = x)) (fun _ c => 4 - (intOf c).toNat)
  case atStart => exact ⟨0, by omega, by omega, rfl, 0, rfl, Lib.hid rfl⟩
  case round =>
    obtain ⟨k, hk0, hk, rfl, x, rfl, HX⟩ := hrel
    by_cases hlt : k < 4
    · have hq : k = 0 ∨ k = 1 ∨ k = 2 ∨ k = 3 := by omega
      clear hlt hk hk0
      rcases hq with rfl | rfl | rfl | rfl
      · have HN : ∀ p, pickI a0 l a o = p → Hid (mixA a o l (a0, a1, a2, a3) (Int.toNat 1) = bits .or .u32 x (bits .and .u32 p 255)) := fun p hp => Lib.hid (by have h := HX.out; show bits .or .u32 (mixA a o l (a0, a1, a2, a3) 0) (bits .and .u32 (pickI a0 l a o) 255) = _; rw [hp]; rw [show mixA a o l (a0, a1, a2, a3) 0 = x from h])
        by_cases hz : bits .and .u8 a0 l = 0
        · have HN2 := HN a (if_pos hz)
          clear HN HX
          go_wp2
          go_round
          case rel => exact ⟨1, by omega, by omega, by first | rfl | go_num, _, rfl, HN2⟩
          case measure => simp [intOf]
        · have HN2 := HN o (if_neg hz)
          clear HN HX
          go_wp2
          go_round
          case rel => exact ⟨1, by omega, by omega, by first | rfl | go_num, _, rfl, HN2⟩
          case measure => simp [intOf]
      · have HN : ∀ p, pickI a1 l a o = p → Hid (mixA a o l (a0, a1, a2, a3) (Int.toNat 2) = bits .or .u32 x (bits .and .u32 p 65280)) := fun p hp => Lib.hid (by have h := HX.out; show bits .or .u32 (mixA a o l (a0, a1, a2, a3) 1) (bits .and .u32 (pickI a1 l a o) 65280) = _; rw [hp]; rw [show mixA a o l (a0, a1, a2, a3) 1 = x from h])
        by_cases hz : bits .and .u8 a1 l = 0
        · have HN2 := HN a (if_pos hz)
          clear HN HX
          go_wp2
          go_round
          case rel => exact ⟨2, by omega, by omega, by first | rfl | go_num, _, rfl, HN2⟩
          case measure => simp [intOf]
        · have HN2 := HN o (if_neg hz)
          clear HN HX
          go_wp2
          go_round
          case rel => exact ⟨2, by omega, by omega, by first | rfl | go_num, _, rfl, HN2⟩
          case measure => simp [intOf]
      · have HN : ∀ p, pickI a2 l a o = p → Hid (mixA a o l (a0, a1, a2, a3) (Int.toNat 3) = bits .or .u32 x (bits .and .u32 p 16711680)) := fun p hp => Lib.hid (by have h := HX.out; show bits .or .u32 (mixA a o l (a0, a1, a2, a3) 2) (bits .and .u32 (pickI a2 l a o) 16711680) = _; rw [hp]; rw [show mixA a o l (a0, a1, a2, a3) 2 = x from h])
        by_cases hz : bits .and .u8 a2 l = 0
        · have HN2 := HN a (if_pos hz)
          clear HN HX
          go_wp2
          go_round
          case rel => exact ⟨3, by omega, by omega, by first | rfl | go_num, _, rfl, HN2⟩
          case measure => simp [intOf]
        · have HN2 := HN o (if_neg hz)
          clear HN HX
          go_wp2
          go_round
          case rel => exact ⟨3, by omega, by omega, by first | rfl | go_num, _, rfl, HN2⟩
          case measure => simp [intOf]
      · have HN : ∀ p, pickI a3 l a o = p → Hid (mixA a o l (a0, a1, a2, a3) (Int.toNat 4) = bits .or .u32 x (bits .and .u32 p 4278190080)) := fun p hp => Lib.hid (by have h := HX.out; show bits .or .u32 (mixA a o l (a0, a1, a2, a3) 3) (bits .and .u32 (pickI a3 l a o) 4278190080) = _; rw [hp]; rw [show mixA a o l (a0, a1, a2, a3) 3 = x from h])
        by_cases hz : bits .and .u8 a3 l = 0
        · have HN2 := HN a (if_pos hz)
          clear HN HX
          go_wp2
          go_round
          case rel => exact ⟨4, by omega, by omega, by first | rfl | go_num, _, rfl, HN2⟩
          case measure => simp [intOf]
        · have HN2 := HN o (if_neg hz)
          clear HN HX
          go_wp2
          go_round
          case rel => exact ⟨4, by omega, by omega, by first | rfl | go_num, _, rfl, HN2⟩
          case measure => simp [intOf]
    · obtain rfl : k = 4 := by omega
      clear hlt hk hk0
      go_wp2
      have hv : mixA a o l (a0, a1, a2, a3) 4 = x := HX.out
      refine bodyPost_ret (v := .int .u32 x) (by simp [results, Try.results15, go_sem]) rfl ?_
      rw [hv]
      exact ⟨rfl, 0, rfl⟩
end Go.Proofs.Ytbhoijkamnaopaa.Tag
