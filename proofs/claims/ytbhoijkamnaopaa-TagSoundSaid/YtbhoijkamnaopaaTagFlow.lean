/- What Flow answers, the program's and the reference's, of each kind. -/
import Derived.Test.YtbhoijkamnaopaaTagC
import Derived.Test.YtbhoijkamnaopaaTagFx
import Derived.Test.YtbhoijkamnaopaaTagFc0
import Derived.Test.YtbhoijkamnaopaaTagFd2
import Derived.Test.YtbhoijkamnaopaaTagFd6
import Derived.Test.YtbhoijkamnaopaaTagFd7
import Derived.Test.YtbhoijkamnaopaaTagFe2
import Derived.Test.YtbhoijkamnaopaaTagFe6
import Derived.Test.YtbhoijkamnaopaaTagFe7
import Derived.Test.YtbhoijkamnaopaaTagFg
namespace Go.Proofs.Ytbhoijkamnaopaa.Tag
open Go Go.RowKit Go.Proofs.Ytbhoijkamnaopaa Go.Proofs.YtbhoijkamnaopaaW.PrintWords Go.Proofs.YtbhoijkamnaopaaW.PrintLast Go.Proofs.YtbhoijkamnaopaaW.PrintMore
open Go.Proofs.Ytbhoijkamnaopaa.Alu
set_option linter.unusedVariables false
set_option linter.unusedSimpArgs false
def errK (kind : Int) : Int := if 0 ≤ kind ∧ kind ≤ 17 then 0 else 1
theorem mask31 {b : Int} (h0 : 0 ≤ b) (h1 : b < 4294967296) : Go.bits .and .u32 b 31 = b % 32 :=
  bits_mask .u32 32 (by decide) (fun n h h' => by rw [IntKind.wrap_u32]; omega) 5 (by decide) b h0 h1
theorem wrap32_nz {b : Int} (h0 : 0 ≤ b) (h1 : b < 4294967296) (h : b ≠ 0) : ¬ wrap32 b = 0 := by unfold wrap32; omega
def sdiv (a b : Int) : Int := if b = 0 then 4294967295 else if a = 2147483648 ∧ b = 4294967295 then a else wrap32 (Int.tdiv (wrap32 a) (wrap32 b)) % 4294967296
def srem (a b : Int) : Int := if b = 0 then a else if a = 2147483648 ∧ b = 4294967295 then 0 else Int.tmod (wrap32 a) (wrap32 b) % 4294967296
theorem divide_at {a b : Int} (h0 : 0 ≤ b) (h1 : b < 4294967296) : alu_divide.f a b = some (sdiv a b, srem a b) := by
  unfold alu_divide.f sdiv srem
  by_cases hb : b = 0
  · simp [hb]
  · have hw := wrap32_nz h0 h1 hb
    by_cases ha : a = 2147483648 <;> by_cases hm : b = 4294967295
    all_goals (first | (subst hm; simp [hw, ha]; done) | simp [hb, hw, ha, hm])
/-- What alu's Do comes to. -/
def doV (kind a b : Int) : Int :=
  if kind = 0 then (a + b) % 4294967296
  else if kind = 1 then (a - b) % 4294967296
  else if kind = 2 then shl .u32 a (b % 32)
  else if kind = 6 then shr .u32 a (b % 32)
  else if kind = 7 then shr .i32 (wrap32 a) (b % 32) % 4294967296
  else if kind = 3 then (if wrap32 a < wrap32 b then 1 else 0)
  else if kind = 4 then (if a < b then 1 else 0)
  else if kind = 5 then Go.bits .xor .u32 a b
  else if kind = 8 then Go.bits .or .u32 a b
  else if kind = 9 then Go.bits .and .u32 a b
  else if kind = 10 then (a * b) % 4294967296
  else if kind = 11 then wrap64 (wrap64 (wrap32 a) * wrap64 (wrap32 b)) / 4294967296 % 4294967296
  else if kind = 12 then wrap64 (wrap64 (wrap32 a) * wrap64 b) / 4294967296 % 4294967296
  else if kind = 13 then IntKind.u64.wrap (IntKind.u64.wrap a * IntKind.u64.wrap b) / 4294967296 % 4294967296
  else if kind = 14 then sdiv a b
  else if kind = 15 then (if b = 0 then 4294967295 else Int.tdiv a b % 4294967296)
  else if kind = 16 then srem a b
  else if kind = 17 then (if b = 0 then a else Int.tmod a b)
  else 0
theorem do_at (kind a b : Int) (hb : 0 ≤ b) (hb' : b < 4294967296) : alu_Do.f kind a b = some (doV kind a b, errK kind) := by
  by_cases hk : 0 ≤ kind ∧ kind ≤ 17
  · have hm := mask31 hb hb'
    have hz : 0 ≤ b % 32 := by omega
    rcases (by omega : kind = 0 ∨ kind = 1 ∨ kind = 2 ∨ kind = 3 ∨ kind = 4 ∨ kind = 5 ∨ kind = 6 ∨ kind = 7 ∨ kind = 8 ∨ kind = 9 ∨ kind = 10 ∨ kind = 11 ∨ kind = 12 ∨ kind = 13 ∨ kind = 14 ∨ kind = 15 ∨ kind = 16 ∨ kind = 17) with rfl | rfl | rfl | rfl | rfl | rfl | rfl | rfl | rfl | rfl | rfl | rfl | rfl | rfl | rfl | rfl | rfl | rfl
    case inr.inr.inr.inl => by_cases h : wrap32 a < wrap32 b <;> simp [alu_Do.f, alu_simple.f, alu_bit.f, doV, errK, h]
    case inr.inr.inr.inr.inl => by_cases h : a < b <;> simp [alu_Do.f, alu_simple.f, alu_bit.f, doV, errK, h]
    case inr.inr.inr.inr.inr.inr.inr.inr.inr.inr.inr.inr.inr.inr.inr.inl => by_cases h : b = 0 <;> simp [alu_Do.f, alu_simple.f, alu_divideu.f, doV, errK, h]
    case inr.inr.inr.inr.inr.inr.inr.inr.inr.inr.inr.inr.inr.inr.inr.inr.inr => by_cases h : b = 0 <;> simp [alu_Do.f, alu_simple.f, alu_divideu.f, doV, errK, h]
    all_goals simp [alu_Do.f, alu_simple.f, doV, errK, hm, hz, divide_at hb hb']
  · have n : ∀ i : Int, 0 ≤ i → i ≤ 17 → ¬ kind = i := fun i h1 h2 h => hk (by omega)
    simp [alu_Do.f, alu_simple.f, doV, errK, hk, n 0, n 1, n 2, n 3, n 4, n 5, n 6, n 7, n 8, n 9, n 10, n 11, n 12, n 13, n 14, n 15, n 16, n 17]
theorem flowC (kind a b : Int) (f g : TF) (ha : 0 ≤ a) (ha' : a < 4294967296) (hb : 0 ≤ b) (hb' : b < 4294967296) (w : World) :
    Calls Try.prog 13 #[.int .i64 kind, .int .u32 a, .int .u32 b, tagF f, tagF g] w (RetE (.tuple #[tagF (flowF kind a b f g), .int .i64 (errK kind)]) w) := by
  rw [← tagF_of (flowT_ofF kind a b f g)]
  have hD := do_at kind a b hb hb'
  by_cases hk : 0 ≤ kind ∧ kind ≤ 17
  · have he : errK kind = 0 := if_pos hk
    rw [he] at hD ⊢
    generalize doV kind a b = r at hD
    unfold flowT
    by_cases h1 : kind = 5 ∨ kind = 8
    · rw [if_pos h1]
      exact flow13a kind a b _ _ _ _ _ _ _ _ r 0 w hD rfl h1
    rw [if_neg h1]
    by_cases h2 : kind = 9
    · rw [if_pos h2]
      exact flow13b kind a b _ _ _ _ _ _ _ _ r 0 w hD rfl h2 ha ha' hb hb'
    rw [if_neg h2]
    by_cases h3 : kind = 0 ∨ kind = 1 ∨ kind = 10
    · rw [if_pos h3]
      rcases h3 with h | h | h
      · exact flow13c0 kind a b _ _ _ _ _ _ _ _ r 0 w hD rfl h
      · exact flow13c1 kind a b _ _ _ _ _ _ _ _ r 0 w hD rfl h
      · exact flow13c10 kind a b _ _ _ _ _ _ _ _ r 0 w hD rfl h
    rw [if_neg h3]
    by_cases h4 : kind = 2 ∨ kind = 6 ∨ kind = 7
    · rw [if_pos h4]
      by_cases hz : (ofF g).1 = 0
      · rw [if_pos hz]
        rcases h4 with h | h | h
        · subst h; exact flow13e2 2 a b (iv (f 0)) (iv (f 1)) (iv (f 2)) (iv (f 3)) (iv (g 0)) (iv (g 1)) (iv (g 2)) (iv (g 3)) r 0 w hD rfl rfl hb hb' hz
        · subst h; exact flow13e6 6 a b (iv (f 0)) (iv (f 1)) (iv (f 2)) (iv (f 3)) (iv (g 0)) (iv (g 1)) (iv (g 2)) (iv (g 3)) r 0 w hD rfl rfl hb hb' hz
        · subst h; exact flow13e7 7 a b (iv (f 0)) (iv (f 1)) (iv (f 2)) (iv (f 3)) (iv (g 0)) (iv (g 1)) (iv (g 2)) (iv (g 3)) r 0 w hD rfl rfl hb hb' hz
      · rw [if_neg hz]
        rcases h4 with h | h | h
        · subst h; exact flow13d2_ a b _ _ _ _ _ _ _ _ r 0 _ _ w hD (all17o _ _ _ _) (fun w => fill20 _ w) rfl hz
        · subst h; exact flow13d6_ a b _ _ _ _ _ _ _ _ r 0 _ _ w hD (all17o _ _ _ _) (fun w => fill20 _ w) rfl hz
        · subst h; exact flow13d7_ a b _ _ _ _ _ _ _ _ r 0 _ _ w hD (all17o _ _ _ _) (fun w => fill20 _ w) rfl hz
    rw [if_neg h4]
    by_cases h5 : kind = 3 ∨ kind = 4
    · rw [if_pos h5]
      exact flow13f kind a b _ _ _ _ _ _ _ _ r 0 w hD rfl h5
    rw [if_neg h5]
    have h6 : kind = 11 ∨ kind = 12 ∨ kind = 13 ∨ kind = 14 ∨ kind = 15 ∨ kind = 16 ∨ kind = 17 := by omega
    rw [if_pos h6]
    exact flow13g kind a b _ _ _ _ _ _ _ _ r 0 w hD rfl h6
  · have he : errK kind = 1 := if_neg hk
    have hz : flowT kind a b (ofF f) (ofF g) = (0, 0, 0, 0) := by
      unfold flowT
      rw [if_neg (by omega), if_neg (by omega), if_neg (by omega), if_neg (by omega), if_neg (by omega), if_neg (by omega)]
    rw [hz, he]
    rw [he] at hD
    exact flow13z kind a b _ _ _ _ _ _ _ _ _ 1 w hD (by decide)
end Go.Proofs.Ytbhoijkamnaopaa.Tag
