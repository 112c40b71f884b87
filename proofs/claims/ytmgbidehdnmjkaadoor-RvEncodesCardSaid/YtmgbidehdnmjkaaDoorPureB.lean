/- What Decode and the reference's Decode answer: one plain function of a word's parts. -/
import Derived.Test.YtmgbidehdnmjkaaDoorPureA
namespace Go.Proofs.YtmgbidehdnmjkaaDoor.Rv
open Go Go.RowKit Go.Proofs.YtmgbidehdnmjkaaDoorW.PrintWords Go.Proofs.YtmgbidehdnmjkaaDoorW.PrintLast Go.Proofs.YtmgbidehdnmjkaaDoorW.PrintMore
set_option linter.unusedVariables false
set_option linter.unusedSimpArgs false
def brT : List Int := [5, 6, 0, 0, 7, 8, 9, 10]
def ldT : List Int := [11, 12, 13, 0, 14, 15, 0, 0]
def stT : List Int := [16, 17, 18, 0, 0, 0, 0, 0]
def imT : List Int := [19, 0, 20, 21, 22, 0, 23, 24]
def rgT : List Int := [28, 30, 31, 32, 33, 34, 36, 37]
def imK (f p : Int) : Int := if f = 1 ∧ p = 0 then 25 else if f = 5 ∧ p = 0 then 26 else if f = 5 ∧ p = 32 then 27 else imT.getD f.toNat 0
def rgK (f p : Int) : Int := if p = 0 then rgT.getD f.toNat 0 else if p = 1 then 38 + f else if p = 32 ∧ f = 0 then 29 else if p = 32 ∧ f = 5 then 35 else 0
def sysK (w : Int) : Int := if w = 115 then 48 else if w = 1048691 then 49 else 0
/-- The Op of a word, by its opcode, funct3, funct7. -/
def opK (o f p s : Int) : Int :=
  if o = 55 then 1 else if o = 23 then 2 else if o = 111 then 3 else if o = 103 then (if f = 0 then 4 else s) else if o = 99 then brT.getD f.toNat 0 else if o = 3 then ldT.getD f.toNat 0
  else if o = 35 then stT.getD f.toNat 0 else if o = 19 then imK f p else if o = 51 then rgK f p else if o = 15 then (if f < 2 then 46 + f else s) else s
def opW (w : Int) : Int := opK (w % 128) (w / 4096 % 8) (w / 33554432) (sysK w)
theorem sys_at (w : Int) : rv_system.f w = some (sysK w) := by
  unfold rv_system.f sysK
  by_cases h : w = 115
  · rw [if_pos h, if_pos h]
  · rw [if_neg h, if_neg h]
    by_cases h' : w = 1048691
    · rw [if_pos h', if_pos h']
    · rw [if_neg h', if_neg h']
theorem br_at (f : Int) (h0 : 0 ≤ f) (h1 : f < 8) : rv_branch.f f = some (brT.getD f.toNat 0) := by unfold rv_branch.f; rw [if_pos ⟨h0, h1⟩]; rfl
theorem ld_at (f : Int) (h0 : 0 ≤ f) (h1 : f < 8) : rv_load.f f = some (ldT.getD f.toNat 0) := by unfold rv_load.f; rw [if_pos ⟨h0, h1⟩]; rfl
theorem st_at (f : Int) (h0 : 0 ≤ f) (h1 : f < 8) : rv_store.f f = some (stT.getD f.toNat 0) := by unfold rv_store.f; rw [if_pos ⟨h0, h1⟩]; rfl
theorem im_at (f p : Int) (h0 : 0 ≤ f) (h1 : f < 8) : rv_imm.f f p = some (imK f p) := by unfold rv_imm.f; rw [if_pos ⟨h0, h1⟩]; rfl
theorem rg_at (f p : Int) (h0 : 0 ≤ f) (h1 : f < 8) : rv_reg.f f p = some (rgK f p) := by unfold rv_reg.f; rw [if_pos ⟨h0, h1⟩]; rfl
theorem bind_some_self {α : Type} (x : Option α) : (x.bind fun t => some t) = x := by cases x <;> rfl
theorem kind_at (w : Int) (h0 : 0 ≤ w) (h1 : w < 4294967296) : rv_kindOf.f w = some (opW w) := by
  have ho : Go.bits .and .u32 w 127 = w % 128 := and_u32 7 (by decide) w
  have hp : w / 33554432 % 128 = w / 33554432 := by omega
  have hf0 : 0 ≤ w / 4096 % 8 := by omega
  have hf1 : w / 4096 % 8 < 8 := by omega
  have hw : wrap64 (46 + w / 4096 % 8) = 46 + w / 4096 % 8 := by unfold wrap64; omega
  unfold rv_kindOf.f opW opK
  simp only [field_12_3, field_25_7, hp, Option.bind_some, ho, sys_at, br_at _ hf0 hf1, ld_at _ hf0 hf1, st_at _ hf0 hf1, im_at _ _ hf0 hf1, rg_at _ _ hf0 hf1, hw]
  generalize w / 4096 % 8 = f
  generalize w / 33554432 = p
  generalize w % 128 = o
  generalize sysK w = s
  generalize imK f p = x1
  generalize rgK f p = x2
  generalize brT.getD f.toNat 0 = x3
  generalize ldT.getD f.toNat 0 = x4
  generalize stT.getD f.toNat 0 = x5
  simp only [apply_ite some]
def jW (w : Int) : Int := w / 2147483648 * (-1048576) + w / 4096 % 256 * 4096 + w / 1048576 % 2 * 2048 + w / 2097152 % 1024 * 2
def bW (w : Int) : Int := w / 2147483648 * (-4096) + w / 128 % 2 * 2048 + w / 33554432 % 64 * 32 + w / 256 % 16 * 2
def sW (w : Int) : Int := (w / 33554432 - w / 2147483648 * 128) * 32 + w / 128 % 32
def iW (w : Int) : Int := w / 1048576 - w / 2147483648 * 4096
def uW (w : Int) : Int := wrap32 (w / 4096 * 4096)
theorem immJ_at (w : Int) (h0 : 0 ≤ w) (h1 : w < 4294967296) : rv_immJ.f w = some (jW w) := by
  unfold rv_immJ.f
  rw [field_12_8, field_20_1, field_21_10]
  simp only [Option.bind_some]
  have e1 : wrap64 (w / 4096 % 256 * 4096) = w / 4096 % 256 * 4096 := by unfold wrap64; omega
  have e2 : wrap64 (w / 1048576 % 2 * 2048) = w / 1048576 % 2 * 2048 := by unfold wrap64; omega
  have e3 : wrap64 (w / 2097152 % 1024 * 2) = w / 2097152 % 1024 * 2 := by unfold wrap64; omega
  rw [e1, e2, e3, or_mid64 11 12 (by decide) (w / 4096 % 256 * 4096) _ (by omega) (by omega) (by omega) (by omega) (by omega) (by omega) (by omega),
    or_mid64 1 11 (by decide) _ _ (by omega) (by omega) (by omega) (by omega) (by omega) (by omega) (by omega)]
  have e4 : wrap32 (w / 4096 % 256 * 4096 + w / 1048576 % 2 * 2048 + w / 2097152 % 1024 * 2) = w / 4096 % 256 * 4096 + w / 1048576 % 2 * 2048 + w / 2097152 % 1024 * 2 := by unfold wrap32; omega
  have e5 : wrap32 (wrap32 w / 2147483648 * 1048576) = w / 2147483648 * (-1048576) := by unfold wrap32; omega
  rw [e4, e5, or_i32 20 (by decide) _ _ (by omega) (by omega) (by omega) (by omega) (by omega)]
  unfold jW
  congr 1
  omega
theorem immB_at (w : Int) (h0 : 0 ≤ w) (h1 : w < 4294967296) : rv_immB.f w = some (bW w) := by
  unfold rv_immB.f
  rw [field_7_1, field_25_6, field_8_4]
  simp only [Option.bind_some]
  have e1 : wrap64 (w / 128 % 2 * 2048) = w / 128 % 2 * 2048 := by unfold wrap64; omega
  have e2 : wrap64 (w / 33554432 % 64 * 32) = w / 33554432 % 64 * 32 := by unfold wrap64; omega
  have e3 : wrap64 (w / 256 % 16 * 2) = w / 256 % 16 * 2 := by unfold wrap64; omega
  rw [e1, e2, e3, or_mid64 5 11 (by decide) (w / 128 % 2 * 2048) _ (by omega) (by omega) (by omega) (by omega) (by omega) (by omega) (by omega),
    or_mid64 1 5 (by decide) _ _ (by omega) (by omega) (by omega) (by omega) (by omega) (by omega) (by omega)]
  have e4 : wrap32 (w / 128 % 2 * 2048 + w / 33554432 % 64 * 32 + w / 256 % 16 * 2) = w / 128 % 2 * 2048 + w / 33554432 % 64 * 32 + w / 256 % 16 * 2 := by unfold wrap32; omega
  have e5 : wrap32 (wrap32 w / 2147483648 * 4096) = w / 2147483648 * (-4096) := by unfold wrap32; omega
  rw [e4, e5, or_i32 12 (by decide) _ _ (by omega) (by omega) (by omega) (by omega) (by omega)]
  unfold bW
  congr 1
  omega
theorem immS_at (w : Int) (h0 : 0 ≤ w) (h1 : w < 4294967296) : rv_immS.f w = some (sW w) := by
  unfold rv_immS.f
  rw [field_7_5]
  simp only [Option.bind_some]
  have e4 : wrap32 (w / 128 % 32) = w / 128 % 32 := by unfold wrap32; omega
  have e5 : wrap32 (wrap32 w / 33554432 * 32) = (w / 33554432 - w / 2147483648 * 128) * 32 := by unfold wrap32; omega
  rw [e4, e5, or_i32 5 (by decide) _ _ (by omega) (by omega) (by omega) (by omega) (by omega)]
  rfl
theorem immI_at (w : Int) (h0 : 0 ≤ w) (h1 : w < 4294967296) : rv_immI.f w = some (iW w) := by
  unfold rv_immI.f iW
  congr 1
  unfold wrap32
  omega
/-- What a word of an Op reads as. -/
def decOp (op w : Int) : Int × Int × Int × Int × Int :=
  if op = 0 ∨ 46 ≤ op then (op, 0, 0, 0, 0)
  else if op ≤ 2 then (op, w / 128 % 32, 0, 0, uW w)
  else if op = 3 then (op, w / 128 % 32, 0, 0, jW w)
  else if 5 ≤ op ∧ op ≤ 10 then (op, 0, w / 32768 % 32, w / 1048576 % 32, bW w)
  else if 16 ≤ op ∧ op ≤ 18 then (op, 0, w / 32768 % 32, w / 1048576 % 32, sW w)
  else if 25 ≤ op ∧ op ≤ 27 then (op, w / 128 % 32, w / 32768 % 32, 0, w / 1048576 % 32)
  else if 28 ≤ op then (op, w / 128 % 32, w / 32768 % 32, w / 1048576 % 32, 0)
  else (op, w / 128 % 32, w / 32768 % 32, 0, iW w)
def dec (w : Int) : Int × Int × Int × Int × Int := decOp (opW w) w
theorem decode_at (k : Nat) (w : Int) (h0 : 0 ≤ w) (h1 : w < 4294967296) : rv_Decode.f (k + 4) w = some (dec w) := by
  unfold rv_Decode.f dec
  rw [kind_at w h0 h1, field_7_5, field_15_5, field_20_5]
  simp only [Option.bind_some]
  have hu : Go.bits .and .u32 w 4294963200 = w / 4096 * 4096 := and_high w h0 h1
  have ht : wrap32 (w / 1048576 % 32) = w / 1048576 % 32 := by unfold wrap32; omega
  generalize opW w = op
  unfold decOp
  by_cases c0 : op = 0
  · subst c0; simp [rv_Decode.j0]
  rw [if_neg c0]
  by_cases c1 : 46 ≤ op
  · rw [if_pos (Or.inr c1)]; simp [rv_Decode.j0, c1]
  rw [if_neg (show ¬ (op = 0 ∨ 46 ≤ op) by omega)]
  simp only [rv_Decode.j0, decide_eq_false (show ¬ op ≥ 46 by omega), Bool.false_eq_true, if_false]
  by_cases c2 : op ≤ 2
  · rw [if_pos c2, if_pos c2, hu]; rfl
  rw [if_neg c2, if_neg c2]
  by_cases c3 : op = 3
  · rw [if_pos c3, if_pos c3, immJ_at w h0 h1]; rfl
  rw [if_neg c3, if_neg c3]
  by_cases c4 : 5 ≤ op ∧ op ≤ 10
  · rw [if_pos c4, if_pos c4.1]; simp only [rv_Decode.j1, decide_eq_true c4.2, if_true]; rw [immB_at w h0 h1]; rfl
  rw [if_neg c4]
  have e4 : (if op ≥ 5 then rv_Decode.j1 (k + 3) w (w / 128 % 32) (w / 32768 % 32) (w / 1048576 % 32) op (decide (op ≤ 10)) op 0 0 0 0 else rv_Decode.j1 (k + 3) w (w / 128 % 32) (w / 32768 % 32) (w / 1048576 % 32) op false op 0 0 0 0) = rv_Decode.j1 (k + 3) w (w / 128 % 32) (w / 32768 % 32) (w / 1048576 % 32) op false op 0 0 0 0 := by
    split
    · rw [decide_eq_false (show ¬ op ≤ 10 by omega)]
    · rfl
  rw [e4]
  simp only [rv_Decode.j1, Bool.false_eq_true, if_false]
  by_cases c5 : 16 ≤ op ∧ op ≤ 18
  · rw [if_pos c5, if_pos c5.1]; simp only [rv_Decode.j2, decide_eq_true c5.2, if_true]; rw [immS_at w h0 h1]; rfl
  rw [if_neg c5]
  have e5 : (if op ≥ 16 then rv_Decode.j2 (k + 2) w (w / 128 % 32) (w / 32768 % 32) (w / 1048576 % 32) op (decide (op ≤ 18)) op 0 0 0 0 else rv_Decode.j2 (k + 2) w (w / 128 % 32) (w / 32768 % 32) (w / 1048576 % 32) op false op 0 0 0 0) = rv_Decode.j2 (k + 2) w (w / 128 % 32) (w / 32768 % 32) (w / 1048576 % 32) op false op 0 0 0 0 := by
    split
    · rw [decide_eq_false (show ¬ op ≤ 18 by omega)]
    · rfl
  rw [e5]
  simp only [rv_Decode.j2, Bool.false_eq_true, if_false]
  by_cases c6 : 25 ≤ op ∧ op ≤ 27
  · rw [if_pos c6, if_pos c6.1]; simp only [rv_Decode.j3, decide_eq_true c6.2, if_true, ht]
  rw [if_neg c6]
  have e6 : (if op ≥ 25 then rv_Decode.j3 (k + 1) w (w / 128 % 32) (w / 32768 % 32) (w / 1048576 % 32) op (decide (op ≤ 27)) op 0 0 0 0 else rv_Decode.j3 (k + 1) w (w / 128 % 32) (w / 32768 % 32) (w / 1048576 % 32) op false op 0 0 0 0) = rv_Decode.j3 (k + 1) w (w / 128 % 32) (w / 32768 % 32) (w / 1048576 % 32) op false op 0 0 0 0 := by
    split
    · rw [decide_eq_false (show ¬ op ≤ 27 by omega)]
    · rfl
  rw [e6]
  simp only [rv_Decode.j3, Bool.false_eq_true, if_false]
  by_cases c7 : 28 ≤ op
  · rw [if_pos c7, if_pos c7]
  rw [if_neg c7, if_neg c7, immI_at w h0 h1]
  rfl
/-! The reference's Decode. -/
def formL : List (Int × Int × Int) := [(0, 0, 0), (55, 0, 0), (23, 0, 0), (111, 0, 0), (103, 0, 0), (99, 0, 0), (99, 1, 0), (99, 4, 0), (99, 5, 0), (99, 6, 0), (99, 7, 0), (3, 0, 0), (3, 1, 0), (3, 2, 0), (3, 4, 0), (3, 5, 0), (35, 0, 0), (35, 1, 0), (35, 2, 0), (19, 0, 0), (19, 2, 0), (19, 3, 0), (19, 4, 0), (19, 6, 0), (19, 7, 0), (19, 1, 0), (19, 5, 0), (19, 5, 32), (51, 0, 0), (51, 0, 32), (51, 1, 0), (51, 2, 0), (51, 3, 0), (51, 4, 0), (51, 5, 0), (51, 5, 32), (51, 6, 0), (51, 7, 0), (51, 0, 1), (51, 1, 1), (51, 2, 1), (51, 3, 1), (51, 4, 1), (51, 5, 1), (51, 6, 1), (51, 7, 1), (15, 0, 0), (15, 1, 0)]
def formN (n : Nat) : Int × Int × Int := formL.getD n (0, 0, 0)
theorem form_at : ∀ n : Nat, n < 48 → 1 ≤ n → tinctureref5_form.f (n : Int) = some (formN n) := by decide +kernel
/-- Does an Op's form fit a word's parts? -/
def fitB (o f p : Int) (n : Nat) : Bool := decide ((formN n).1 = o) && (decide (n ≤ 3) || decide ((formN n).2.1 = f)) && (decide (n < 25) || decide (45 < n) || decide ((formN n).2.2 = p))
/-- What the reference makes of a word of an Op. -/
def refOp (n : Nat) (w : Int) : Int × Int × Int × Int × Int := decOp (n : Int) w
theorem signed21 (v : Int) (h0 : 0 ≤ v) (h1 : v < 2097152) : tinctureref5_signed.f v 21 = some (v - v / 1048576 * 2097152) := by
  have e1 : IntKind.u64.wrap (32 - 21) = 11 := by decide
  unfold tinctureref5_signed.f
  rw [e1, if_pos (by decide), show shl .u32 v 11 = v * 2048 % 4294967296 by unfold shl; rw [show (2 : Int) ^ min (11 : Int).toNat IntKind.u32.bits = 2048 by decide, IntKind.wrap_u32]]
  unfold shr
  rw [show (2 : Int) ^ min (11 : Int).toNat IntKind.i32.bits = 2048 by decide]
  congr 1
  unfold wrap32
  omega
theorem signed13 (v : Int) (h0 : 0 ≤ v) (h1 : v < 8192) : tinctureref5_signed.f v 13 = some (v - v / 4096 * 8192) := by
  have e1 : IntKind.u64.wrap (32 - 13) = 19 := by decide
  unfold tinctureref5_signed.f
  rw [e1, if_pos (by decide), show shl .u32 v 19 = v * 524288 % 4294967296 by unfold shl; rw [show (2 : Int) ^ min (19 : Int).toNat IntKind.u32.bits = 524288 by decide, IntKind.wrap_u32]]
  unfold shr
  rw [show (2 : Int) ^ min (19 : Int).toNat IntKind.i32.bits = 524288 by decide]
  congr 1
  unfold wrap32
  omega
theorem signed12 (v : Int) (h0 : 0 ≤ v) (h1 : v < 4096) : tinctureref5_signed.f v 12 = some (v - v / 2048 * 4096) := by
  have e1 : IntKind.u64.wrap (32 - 12) = 20 := by decide
  unfold tinctureref5_signed.f
  rw [e1, if_pos (by decide), show shl .u32 v 20 = v * 1048576 % 4294967296 by unfold shl; rw [show (2 : Int) ^ min (20 : Int).toNat IntKind.u32.bits = 1048576 by decide, IntKind.wrap_u32]]
  unfold shr
  rw [show (2 : Int) ^ min (20 : Int).toNat IntKind.i32.bits = 1048576 by decide]
  congr 1
  unfold wrap32
  omega
theorem refJ (w : Int) (h0 : 0 ≤ w) (h1 : w < 4294967296) : tinctureref5_signed.f (Go.bits .or .u32 (Go.bits .or .u32 (Go.bits .or .u32 (((w / 2147483648) * 1048576) % 4294967296) (((Go.bits .and .u32 (w / 4096) 255) * 4096) % 4294967296)) (((Go.bits .and .u32 (w / 1048576) 1) * 2048) % 4294967296)) (((Go.bits .and .u32 (w / 2097152) 1023) * 2) % 4294967296)) 21 = some (jW w) := by
  have a1 : Go.bits .and .u32 (w / 4096) 255 = w / 4096 % 256 := and_u32 8 (by decide) _
  have a2 : Go.bits .and .u32 (w / 1048576) 1 = w / 1048576 % 2 := and_u32 1 (by decide) _
  have a3 : Go.bits .and .u32 (w / 2097152) 1023 = w / 2097152 % 1024 := and_u32 10 (by decide) _
  have m0 : w / 2147483648 * 1048576 % 4294967296 = w / 2147483648 * 1048576 := by omega
  have m1 : w / 4096 % 256 * 4096 % 4294967296 = w / 4096 % 256 * 4096 := by omega
  have m2 : w / 1048576 % 2 * 2048 % 4294967296 = w / 1048576 % 2 * 2048 := by omega
  have m3 : w / 2097152 % 1024 * 2 % 4294967296 = w / 2097152 % 1024 * 2 := by omega
  rw [a1, a2, a3, m0, m1, m2, m3]
  clear a1 a2 a3 m0 m1 m2 m3
  rw [or_mid 12 20 (by decide) (w / 2147483648 * 1048576) _ (by omega) (by omega) (by omega) (by omega) (by omega) (by omega) (by omega),
    or_mid 11 12 (by decide) (_ + _) _ (by omega) (by omega) (by omega) (by omega) (by omega) (by omega) (by omega),
    or_mid 1 11 (by decide) _ _ (by omega) (by omega) (by omega) (by omega) (by omega) (by omega) (by omega), signed21 _ (by omega) (by omega)]
  unfold jW
  congr 1
  omega
theorem refB (w : Int) (h0 : 0 ≤ w) (h1 : w < 4294967296) : tinctureref5_signed.f (Go.bits .or .u32 (Go.bits .or .u32 (Go.bits .or .u32 (((w / 2147483648) * 4096) % 4294967296) (((Go.bits .and .u32 (w / 128) 1) * 2048) % 4294967296)) (((Go.bits .and .u32 (w / 33554432) 63) * 32) % 4294967296)) (((Go.bits .and .u32 (w / 256) 15) * 2) % 4294967296)) 13 = some (bW w) := by
  have a1 : Go.bits .and .u32 (w / 128) 1 = w / 128 % 2 := and_u32 1 (by decide) _
  have a2 : Go.bits .and .u32 (w / 33554432) 63 = w / 33554432 % 64 := and_u32 6 (by decide) _
  have a3 : Go.bits .and .u32 (w / 256) 15 = w / 256 % 16 := and_u32 4 (by decide) _
  have m0 : w / 2147483648 * 4096 % 4294967296 = w / 2147483648 * 4096 := by omega
  have m1 : w / 128 % 2 * 2048 % 4294967296 = w / 128 % 2 * 2048 := by omega
  have m2 : w / 33554432 % 64 * 32 % 4294967296 = w / 33554432 % 64 * 32 := by omega
  have m3 : w / 256 % 16 * 2 % 4294967296 = w / 256 % 16 * 2 := by omega
  rw [a1, a2, a3, m0, m1, m2, m3]
  clear a1 a2 a3 m0 m1 m2 m3
  rw [or_mid 11 12 (by decide) (w / 2147483648 * 4096) _ (by omega) (by omega) (by omega) (by omega) (by omega) (by omega) (by omega),
    or_mid 5 11 (by decide) (_ + _) _ (by omega) (by omega) (by omega) (by omega) (by omega) (by omega) (by omega),
    or_mid 1 5 (by decide) _ _ (by omega) (by omega) (by omega) (by omega) (by omega) (by omega) (by omega), signed13 _ (by omega) (by omega)]
  unfold bW
  congr 1
  omega
theorem refS (w : Int) (h0 : 0 ≤ w) (h1 : w < 4294967296) : tinctureref5_signed.f (Go.bits .or .u32 (((w / 33554432) * 32) % 4294967296) (Go.bits .and .u32 (w / 128) 31)) 12 = some (sW w) := by
  have a1 : Go.bits .and .u32 (w / 128) 31 = w / 128 % 32 := and_u32 5 (by decide) _
  have m0 : w / 33554432 * 32 % 4294967296 = w / 33554432 * 32 := by omega
  rw [a1, m0]
  clear a1 m0
  rw [or_mid 0 5 (by decide) _ _ (by omega) (by omega) (by omega) (by omega) (by omega) (by omega) (by omega), signed12 _ (by omega) (by omega)]
  unfold sW
  congr 1
  omega
theorem refI (w : Int) (h0 : 0 ≤ w) (h1 : w < 4294967296) : tinctureref5_signed.f (w / 1048576) 12 = some (iW w) := by
  rw [signed12 _ (by omega) (by omega)]
  unfold iW
  congr 1
  omega
theorem ref_out (k : Nat) (w o f p : Int) (h0 : 0 ≤ w) (h1 : w < 4294967296) (n : Nat) (hn1 : 1 ≤ n) (hn : n < 48) :
    tinctureref5_Decode.j1 (k + 2) w o f p (w / 128 % 32) (w / 32768 % 32) (w / 1048576 % 32) (n : Int) false = some (decOp (n : Int) w) := by
  have hu : Go.bits .and .u32 w 4294963200 = w / 4096 * 4096 := and_high w h0 h1
  have ht : wrap32 (w / 1048576 % 32) = w / 1048576 % 32 := by unfold wrap32; omega
  unfold decOp
  simp only [tinctureref5_Decode.j1, Bool.false_eq_true, if_false]
  by_cases c2 : (n : Int) ≤ 2
  · rw [if_pos c2, if_neg (by omega), if_pos c2, hu]; rfl
  rw [if_neg c2]
  by_cases c3 : (n : Int) = 3
  · rw [if_pos c3, if_neg (by omega), if_neg c2, if_pos c3, refJ w h0 h1]; rfl
  rw [if_neg c3]
  by_cases cI : (n : Int) = 4 ∨ (11 ≤ (n : Int) ∧ (n : Int) ≤ 15) ∨ (19 ≤ (n : Int) ∧ (n : Int) ≤ 24)
  · rw [if_neg (show ¬ ((n : Int) = 0 ∨ 46 ≤ (n : Int)) by omega), if_neg c2, if_neg c3, if_neg (show ¬ (5 ≤ (n : Int) ∧ (n : Int) ≤ 10) by omega), if_neg (show ¬ (16 ≤ (n : Int) ∧ (n : Int) ≤ 18) by omega), if_neg (show ¬ (25 ≤ (n : Int) ∧ (n : Int) ≤ 27) by omega), if_neg (show ¬ 28 ≤ (n : Int) by omega)]
    have e : tinctureref5_Decode.j2 (k + 1) w (w / 128 % 32) (w / 32768 % 32) (w / 1048576 % 32) (n : Int) true = some ((n : Int), w / 128 % 32, w / 32768 % 32, 0, iW w) := by
      simp only [tinctureref5_Decode.j2, if_true]; rw [refI w h0 h1]; rfl
    by_cases d1 : (n : Int) = 4
    · rw [if_pos d1, e]
    rw [if_neg d1]
    by_cases d2 : (n : Int) ≥ 11
    · rw [if_pos d2]
      by_cases d3 : (n : Int) ≤ 15
      · rw [if_pos d3, e]
      · rw [if_neg d3, if_pos (by omega), decide_eq_true (show (n : Int) ≤ 24 by omega), e]
    · omega
  · have e : ∀ b, b = false → tinctureref5_Decode.j2 (k + 1) w (w / 128 % 32) (w / 32768 % 32) (w / 1048576 % 32) (n : Int) b = some (decOp (n : Int) w) := by
      intro b hb
      subst hb
      unfold decOp
      simp only [tinctureref5_Decode.j2, Bool.false_eq_true, if_false]
      by_cases d1 : (n : Int) ≤ 10
      · rw [if_pos d1, if_neg (by omega), if_neg c2, if_neg c3, if_pos (show 5 ≤ (n : Int) ∧ (n : Int) ≤ 10 by omega), refB w h0 h1]; rfl
      rw [if_neg d1]
      by_cases d2 : (n : Int) ≤ 18
      · rw [if_pos d2, if_neg (by omega), if_neg c2, if_neg c3, if_neg (by omega), if_pos (show 16 ≤ (n : Int) ∧ (n : Int) ≤ 18 by omega), refS w h0 h1]; rfl
      rw [if_neg d2]
      by_cases d3 : (n : Int) ≤ 27
      · rw [if_pos d3, if_neg (by omega), if_neg c2, if_neg c3, if_neg (by omega), if_neg (by omega), if_pos (show 25 ≤ (n : Int) ∧ (n : Int) ≤ 27 by omega), ht]
      rw [if_neg d3]
      by_cases d4 : (n : Int) ≤ 45
      · rw [if_pos d4, if_neg (by omega), if_neg c2, if_neg c3, if_neg (by omega), if_neg (by omega), if_neg (by omega), if_pos (by omega)]
      rw [if_neg d4, if_pos (by omega)]
    have e' := e
    unfold decOp at e'
    rw [if_neg (show ¬ (n : Int) = 4 by omega)]
    by_cases d2 : (n : Int) ≥ 11
    · rw [if_pos d2, if_neg (by omega)]
      by_cases d3 : (n : Int) ≥ 19
      · rw [if_pos d3]; exact e' _ (decide_eq_false (by omega))
      · rw [if_neg d3]; exact e' _ rfl
    · rw [if_neg d2, if_neg (by omega)]; exact e' _ rfl
theorem ref_step (k : Nat) (w o f p d s t : Int) (n : Nat) (hn1 : 1 ≤ n) (hn : n < 48) :
    tinctureref5_Decode.l0 (k + 2) w o f p d s t (n : Int) = tinctureref5_Decode.j1 (k + 1) w o f p d s t (n : Int) (!fitB o f p n) := by
  simp only [tinctureref5_Decode.l0]
  rw [if_pos (by omega), form_at n hn hn1]
  simp only [Option.bind_some]
  unfold fitB
  generalize formN n = F
  obtain ⟨a, b, c⟩ := F
  simp only
  by_cases c1 : a = o
  · rw [if_pos c1, decide_eq_true c1]
    by_cases c2 : n ≤ 3
    · rw [if_neg (show ¬ (n : Int) > 3 by omega), if_neg (by omega), decide_eq_true c2, decide_eq_true (show n < 25 by omega)]; rfl
    · rw [if_pos (show (n : Int) > 3 by omega), decide_eq_false c2]
      by_cases c3 : b = f
      · rw [if_pos c3, decide_eq_true c3]
        by_cases c4 : n < 25
        · rw [if_neg (by omega), decide_eq_true c4]; rfl
        · rw [if_pos (by omega), decide_eq_false c4]
          by_cases c5 : 45 < n
          · rw [if_neg (by omega), decide_eq_true c5]; rfl
          · rw [if_pos (by omega), decide_eq_false c5]
            by_cases c6 : c = p
            · rw [decide_eq_true c6, c6]; simp
            · rw [decide_eq_false c6, bne_iff_ne.2 c6]; rfl
      · rw [if_neg c3, decide_eq_false c3]; rfl
  · rw [if_neg c1, decide_eq_false c1]; rfl
theorem ref_loop (w o f p : Int) (h0 : 0 ≤ w) (h1 : w < 4294967296) (m : Nat) : ∀ (k n : Nat), 1 ≤ n → n + m = 48 →
    tinctureref5_Decode.l0 (k + 2 * m + 3) w o f p (w / 128 % 32) (w / 32768 % 32) (w / 1048576 % 32) (n : Int) = some (match (List.range' n m).find? (fitB o f p) with | some q => decOp (q : Int) w | none => (0, 0, 0, 0, 0)) := by
  induction m with
  | zero =>
    intro k n h2 h3
    simp only [tinctureref5_Decode.l0]
    rw [if_neg (by omega)]
    rfl
  | succ m ih =>
    intro k n h2 h3
    rw [show k + 2 * (m + 1) + 3 = (k + 2 * m + 3) + 2 by omega, ref_step _ w o f p _ _ _ n h2 (by omega), List.range'_succ, List.find?_cons]
    cases hf : fitB o f p n with
    | true =>
      simp only [Bool.not_true]
      rw [show k + 2 * m + 3 + 1 = (k + 2 * m + 2) + 2 by omega, ref_out _ w o f p h0 h1 n h2 (by omega)]
    | false =>
      simp only [Bool.not_false]
      have hg : tinctureref5_Decode.j1 (k + 2 * m + 3 + 1) w o f p (w / 128 % 32) (w / 32768 % 32) (w / 1048576 % 32) (n : Int) true = tinctureref5_Decode.l0 (k + 2 * m + 3) w o f p (w / 128 % 32) (w / 32768 % 32) (w / 1048576 % 32) (wrap64 ((n : Int) + 1)) := by
        simp only [tinctureref5_Decode.j1, if_true]
      rw [hg, show wrap64 ((n : Int) + 1) = ((n + 1 : Nat) : Int) by unfold wrap64; omega]
      exact ih k (n + 1) (by omega) (by omega)
end Go.Proofs.YtmgbidehdnmjkaaDoor.Rv
