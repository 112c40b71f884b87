/- What masked answers. -/
import Derived.Test.YtbhoijkamnaopaaTagShifted
import Derived.LoopTactic
import Derived.StillTailTactics
import Derived.BigRegion
import Derived.LoopN
import Derived.Deep.RegionHeld3
import Derived.Lib.Hide
namespace Go.Proofs.Ytbhoijkamnaopaa.Tag
open Go Go.RowKit Go.Proofs.YtbhoijkamnaopaaW.PrintWords Go.Proofs.YtbhoijkamnaopaaW.PrintLast Go.Proofs.YtbhoijkamnaopaaW.PrintMore
set_option linter.unusedVariables false
set_option linter.unusedSimpArgs false
theorem or00 : bits .or .u8 0 0 = 0 := by decide
/-- One byte of an and. -/
def mB (x s y t : Int) : Int := if s = 0 ∧ x = 0 ∨ t = 0 ∧ y = 0 then 0 else or8 s t
def byI (a : Int) : Nat → Int | 0 => a % 256 | 1 => a / 256 % 256 | 2 => a / 65536 % 256 | _ => a / 16777216
def mAcc (a b : Int) (s t : T4) : Nat → T4
  | 0 => (0, 0, 0, 0)
  | 1 => (mB (byI a 0) s.1 (byI b 0) t.1, 0, 0, 0)
  | 2 => (mB (byI a 0) s.1 (byI b 0) t.1, mB (byI a 1) s.2.1 (byI b 1) t.2.1, 0, 0)
  | 3 => (mB (byI a 0) s.1 (byI b 0) t.1, mB (byI a 1) s.2.1 (byI b 1) t.2.1, mB (byI a 2) s.2.2.1 (byI b 2) t.2.2.1, 0)
  | _ => (mB (byI a 0) s.1 (byI b 0) t.1, mB (byI a 1) s.2.1 (byI b 1) t.2.1, mB (byI a 2) s.2.2.1 (byI b 2) t.2.2.1, mB (byI a 3) s.2.2.2 (byI b 3) t.2.2.2)
set_option maxRecDepth 100000 in
set_option maxHeartbeats 4000000 in
theorem masked27 (a b a0 a1 a2 a3 b0 b1 b2 b3 : Int) (w : World) (ha : 0 ≤ a) (ha' : a < 4294967296) (hb : 0 ≤ b) (hb' : b < 4294967296) : Calls Try.prog 27 #[.int .u32 a, .int .u32 b, .agg #[.int .u8 a0, .int .u8 a1, .int .u8 a2, .int .u8 a3], .agg #[.int .u8 b0, .int .u8 b1, .int .u8 b2, .int .u8 b3]] w (Ret (tagOf (mAcc a b (a0, a1, a2, a3) (b0, b1, b2, b3) 4)) ((((w.alloc (.cells #[.int .u8 a0, .int .u8 a1, .int .u8 a2, .int .u8 a3] 24)).alloc (.cells #[.int .u8 b0, .int .u8 b1, .int .u8 b2, .int .u8 b3] 24)).alloc (cellsT (mAcc a b (a0, a1, a2, a3) (b0, b1, b2, b3) 4))).alloc (cellsT (mAcc a b (a0, a1, a2, a3) (b0, b1, b2, b3) 4)))) := by
  go_enter Try.func27, Try.ntmps27
  go_wp2
  go_loopw [13] (fun c wr => ∃ k : Nat, k ≤ 4 ∧ c = .int .i64 k ∧ ∃ (n : Nat) (x0 x1 x2 x3 : Int), wr = ((((w.alloc (.cells #[.int .u8 a0, .int .u8 a1, .int .u8 a2, .int .u8 a3] 24)).alloc (.cells #[.int .u8 b0, .int .u8 b1, .int .u8 b2, .int .u8 b3] 24)).alloc (.cells #[.int .u8 0, .int .u8 0, .int .u8 0, .int .u8 0] 24)).alloc (.cells #[.int .u8 x0, .int .u8 x1, .int .u8 x2, .int .u8 x3] 24)).drewN n ∧ Hid (mAcc a b (a0, a1, a2, a3) (b0, b1, b2, b3) k = (x0, x1, x2, x3))) (fun c _ => 4 - (intOf c).toNat)
  case atStart => exact ⟨0, by omega, rfl, 0, 0, 0, 0, 0, rfl, Lib.hid rfl⟩
  case round =>
    obtain ⟨k, hk, rfl, n, x0, x1, x2, x3, rfl, HX⟩ := hrel
    by_cases hlt : k < 4
    · have hq : k = 0 ∨ k = 1 ∨ k = 2 ∨ k = 3 := by omega
      clear hlt hk
      rcases hq with rfl | rfl | rfl | rfl
      · have HY := HX.out
        simp only [mAcc, Prod.mk.injEq] at HY
        obtain ⟨rfl, rfl, rfl, rfl⟩ := HY
        rcases Decidable.em (a0 = 0) with rfl | za <;> rcases Decidable.em (byI a 0 = 0) with zx | zx <;> rcases Decidable.em (b0 = 0) with rfl | zb <;> rcases Decidable.em (byI b 0 = 0) with zy | zy
        all_goals simp only [byI] at zx zy
        all_goals go_wp2
        all_goals go_region
        all_goals go_wp2
        all_goals try (go_region; go_wp2)
        all_goals go_roundw
        all_goals first
          | exact ⟨1, by omega, by go_num, _, _, _, _, _, rfl, Lib.hid (by simp [mAcc, mB, byI, or8, or00, *])⟩
          | (simp [intOf]; done)
      · have HY := HX.out
        simp only [mAcc, Prod.mk.injEq] at HY
        obtain ⟨rfl, rfl, rfl, rfl⟩ := HY
        rcases Decidable.em (a1 = 0) with rfl | za <;> rcases Decidable.em (byI a 1 = 0) with zx | zx <;> rcases Decidable.em (b1 = 0) with rfl | zb <;> rcases Decidable.em (byI b 1 = 0) with zy | zy
        all_goals simp only [byI] at zx zy
        all_goals go_wp2
        all_goals go_region
        all_goals go_wp2
        all_goals try (go_region; go_wp2)
        all_goals go_roundw
        all_goals first
          | exact ⟨2, by omega, by go_num, _, _, _, _, _, rfl, Lib.hid (by simp [mAcc, mB, byI, or8, or00, *])⟩
          | (simp [intOf]; done)
      · have HY := HX.out
        simp only [mAcc, Prod.mk.injEq] at HY
        obtain ⟨rfl, rfl, rfl, rfl⟩ := HY
        rcases Decidable.em (a2 = 0) with rfl | za <;> rcases Decidable.em (byI a 2 = 0) with zx | zx <;> rcases Decidable.em (b2 = 0) with rfl | zb <;> rcases Decidable.em (byI b 2 = 0) with zy | zy
        all_goals simp only [byI] at zx zy
        all_goals go_wp2
        all_goals go_region
        all_goals go_wp2
        all_goals try (go_region; go_wp2)
        all_goals go_roundw
        all_goals first
          | exact ⟨3, by omega, by go_num, _, _, _, _, _, rfl, Lib.hid (by simp [mAcc, mB, byI, or8, or00, *])⟩
          | (simp [intOf]; done)
      · have HY := HX.out
        simp only [mAcc, Prod.mk.injEq] at HY
        obtain ⟨rfl, rfl, rfl, rfl⟩ := HY
        rcases Decidable.em (a3 = 0) with rfl | za <;> rcases Decidable.em (byI a 3 = 0) with zx | zx <;> rcases Decidable.em (b3 = 0) with rfl | zb <;> rcases Decidable.em (byI b 3 = 0) with zy | zy
        all_goals simp only [byI] at zx zy
        all_goals go_wp2
        all_goals go_region
        all_goals go_wp2
        all_goals try (go_region; go_wp2)
        all_goals go_roundw
        all_goals first
          | exact ⟨4, by omega, by go_num, _, _, _, _, _, rfl, Lib.hid (by simp [mAcc, mB, byI, or8, or00, *])⟩
          | (simp [intOf]; done)
    · obtain rfl : k = 4 := by omega
      clear hlt hk
      go_wp2
      have hv := HX.out
      refine bodyPost_ret (v := .agg #[.int .u8 x0, .int .u8 x1, .int .u8 x2, .int .u8 x3]) (by simp [results, Try.results27, go_sem]) rfl ?_
      rw [hv]
      exact ⟨rfl, n, rfl⟩
end Go.Proofs.Ytbhoijkamnaopaa.Tag
