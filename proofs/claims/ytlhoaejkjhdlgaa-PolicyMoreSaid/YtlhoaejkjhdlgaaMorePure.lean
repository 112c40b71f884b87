/- Plain facts of PolicyMore: labels only grow; hits are places of sinks of the mask, in order. -/
import Derived.Test.YtlhoaejkjhdlgaaPlainPPolicyMore
namespace Go.Proofs.Ytlhoaejkjhdlgaa.MorePure
open Go Go.RowKit Go.Proofs.Ytlhoaejkjhdlgaa.PPolicyMore Go.Proofs.YtlhoaejkjhdlgaaW.PrintWords Go.Proofs.Ytlhoaejkjhdlgaa.PlainPPolicyMore
theorem and0 (a : Int) : Go.bits .and .u8 a 0 = 0 := by simp [Go.bits]; rfl
theorem hits0 (kind n : Int) (ys : List S37) : ∀ i, hitsP kind n 0 i ys = [] := by
  induction ys with
  | nil => intro i; rfl
  | cons s ys ih => intro i; rw [hitsP_cons, if_neg (by simp [hitK, and0]), ih]
theorem of_wrap (v : BitVec 8) : BitVec.ofInt IntKind.u8.bits (IntKind.u8.wrap (v.toNat : Int)) = v := by
  have h : v.toNat < 256 := v.isLt
  have e : IntKind.u8.wrap (v.toNat : Int) = (v.toNat : Int) := by show (v.toNat : Int) % 256 = _; omega
  rw [e]
  show BitVec.ofInt 8 (v.toNat : Int) = v
  rw [BitVec.ofInt_natCast, BitVec.ofNat_toNat]; simp
theorem zero_wrap : IntKind.u8.wrap 0 = 0 := rfl
theorem up_at (a : Int) (v : BitVec 8) : Go.bits .andNot .u8 a (IntKind.u8.wrap (v.toNat : Int)) = IntKind.u8.wrap ((BitVec.ofInt 8 a &&& ~~~v : BitVec 8).toNat : Int) := by
  show IntKind.u8.wrap (((BitVec.ofInt IntKind.u8.bits a &&& ~~~ BitVec.ofInt IntKind.u8.bits (IntKind.u8.wrap (v.toNat : Int)))).toNat : Int) = _
  rw [of_wrap]; rfl
theorem up1 (a b : Int) : Go.bits .andNot .u8 a (Go.bits .or .u8 a b) = 0 := by
  have h := up_at a (BitVec.ofInt 8 a ||| BitVec.ofInt 8 b)
  have e : (BitVec.ofInt 8 a &&& ~~~(BitVec.ofInt 8 a ||| BitVec.ofInt 8 b) : BitVec 8) = 0#8 := by
    generalize BitVec.ofInt 8 a = u; generalize BitVec.ofInt 8 b = v
    ext i; simp; intro h; simp [h]
  rw [e] at h
  exact h
theorem up0 (a : Int) : Go.bits .andNot .u8 a a = 0 := by
  show IntKind.u8.wrap ((BitVec.ofInt 8 a &&& ~~~(BitVec.ofInt 8 a) : BitVec 8).toNat : Int) = 0
  have e : (BitVec.ofInt 8 a &&& ~~~(BitVec.ofInt 8 a) : BitVec 8) = 0#8 := by
    generalize BitVec.ofInt 8 a = u; ext i; simp
  rw [e]; rfl
theorem hitsP_le (kind n l : Int) (ys : List S37) : ∀ (i : Nat) (e : Int), e ∈ hitsP kind n l i ys → ∃ k : Nat, ∃ h : k < ys.length, e = ((i + k : Nat) : Int) ∧ Go.bits .and .u8 (ys[k]).f2 l ≠ 0 := by
  induction ys with
  | nil => intro i e he; simp [hitsP] at he
  | cons s ys ih =>
    intro i e he
    rw [hitsP_cons] at he
    by_cases c : hitK s.f0 s.f1 s.f2 kind n l = true
    · rw [if_pos c] at he
      rcases List.mem_cons.1 he with rfl | he
      · refine ⟨0, by simp, by simp, ?_⟩
        simp only [hitK, Bool.and_eq_true, Bool.not_eq_true', beq_eq_false_iff_ne] at c
        exact c.2.2
      · obtain ⟨k, h, e1, e2⟩ := ih (i + 1) e he
        exact ⟨k + 1, by simp; omega, by rw [e1]; congr 1; omega, by simpa using e2⟩
    · rw [if_neg c] at he
      obtain ⟨k, h, e1, e2⟩ := ih (i + 1) e he
      exact ⟨k + 1, by simp; omega, by rw [e1]; congr 1; omega, by simpa using e2⟩
theorem hitsP_sorted (kind n l : Int) (ys : List S37) : ∀ (i : Nat), (hitsP kind n l i ys).Pairwise (· < ·) := by
  induction ys with
  | nil => intro i; exact List.Pairwise.nil
  | cons s ys ih =>
    intro i
    rw [hitsP_cons]
    by_cases c : hitK s.f0 s.f1 s.f2 kind n l = true
    · rw [if_pos c]
      refine List.Pairwise.cons (fun e he => ?_) (ih (i + 1))
      obtain ⟨k, h, e1, _⟩ := hitsP_le kind n l ys (i + 1) e he
      omega
    · rw [if_neg c]; exact ih (i + 1)
theorem hpure (kind n l : Int) (ys : List S37) (j : Int) (h0 : 0 ≤ j) (h1 : j < (hitsP kind n l 0 ys).length) :
    0 ≤ rd (hitsP kind n l 0 ys) j ∧ rd (hitsP kind n l 0 ys) j < (ys.length : Int) ∧ Go.bits .and .u8 (rd_T37 ys (rd (hitsP kind n l 0 ys) j)).f2 l ≠ 0 ∧ (0 < j → rd (hitsP kind n l 0 ys) (j - 1) < rd (hitsP kind n l 0 ys) j) := by
  have hs := hitsP_sorted kind n l ys 0
  have hm := hitsP_le kind n l ys 0
  generalize hitsP kind n l 0 ys = hs' at *
  have hj : j.toNat < hs'.length := by omega
  have e : rd hs' j = hs'[j.toNat] := by simp [rd, hj]
  obtain ⟨k, hk, e1, e2⟩ := hm hs'[j.toNat] (List.getElem_mem _)
  rw [e, e1]
  refine ⟨by omega, by omega, ?_, fun hp => ?_⟩
  · have e3 : rd_T37 ys ((0 + k : Nat) : Int) = ys[k] := by simp [rd_T37, hk]
    rw [e3]; exact e2
  · have e4 : rd hs' (j - 1) = hs'[(j - 1).toNat]'(by omega) := by simp only [rd]; rw [List.getD_eq_getElem?_getD, List.getElem?_eq_getElem (by omega)]; rfl
    rw [e4, ← e1]
    exact List.pairwise_iff_getElem.1 hs _ _ _ _ (by omega)
end Go.Proofs.Ytlhoaejkjhdlgaa.MorePure
