/- What two policies label together is what both label, or'd; sinks behind others keep their places: the plain function that the walk computes answers true. -/
import Derived.Test.YtlhoaejkjhdlgaaParts
import Derived.Test.YtlhoaejkjhdlgaaPlainPPolicyBytes
import Derived.Test.YtlhoaejkjhdlgaaOpenTPolicyBytes
namespace Go.Proofs.Ytlhoaejkjhdlgaa.PolicyParts
open Go Go.RowKit Go.Proofs.Ytlhoaejkjhdlgaa.OpenTPolicyBytes Go.Proofs.Ytlhoaejkjhdlgaa.PPolicyBytes Go.Proofs.YtlhoaejkjhdlgaaW.PrintWords Go.Proofs.YtlhoaejkjhdlgaaW.PrintLast Go.Proofs.YtlhoaejkjhdlgaaW.PrintMore Go.Proofs.Ytlhoaejkjhdlgaa.PlainPPolicyBytes
set_option linter.unusedVariables false
set_option linter.unusedSimpArgs false
def Wr (v : BitVec 8) : Int := IntKind.u8.wrap (v.toNat : Int)
theorem of_wrap (v : BitVec 8) : BitVec.ofInt 8 (Wr v) = v := by
  have h : v.toNat < 256 := v.isLt
  have e : Wr v = (v.toNat : Int) := by show (v.toNat : Int) % 256 = _; omega
  rw [e, BitVec.ofInt_natCast, BitVec.ofNat_toNat]; simp
theorem or_wr (v : BitVec 8) (x : Int) : Go.bits .or .u8 (Wr v) x = Wr (v ||| BitVec.ofInt 8 x) := by
  show IntKind.u8.wrap (((BitVec.ofInt 8 (Wr v) ||| BitVec.ofInt 8 x) : BitVec 8).toNat : Int) = _
  rw [of_wrap]; rfl
def vec (kind arg : Int) : List S35 → BitVec 8
  | [] => 0
  | s :: xs => (if hitS s.f0 s.f1 kind arg = true then BitVec.ofInt 8 s.f3 else 0) ||| vec kind arg xs
theorem label_fold (kind arg : Int) (xs : List S35) : ∀ v : BitVec 8, xs.foldl (stepS kind arg) (Wr v) = Wr (v ||| vec kind arg xs) := by
  induction xs with
  | nil => intro v; simp [vec]
  | cons s xs ih =>
    intro v
    rw [List.foldl_cons, stepS]
    by_cases c : hitS s.f0 s.f1 kind arg = true
    · rw [if_pos c, or_wr, ih, vec, if_pos c, BitVec.or_assoc]
    · rw [if_neg c, ih, vec, if_neg c]; simp
theorem labelP_vec (kind arg : Int) (xs : List S35) : labelP xs kind arg = Wr (vec kind arg xs) := by
  have h := label_fold kind arg xs 0
  have e : Wr 0 = 0 := rfl
  rw [e] at h
  rw [labelP, h]; simp
theorem vec_append (kind arg : Int) (xs ys : List S35) : vec kind arg (xs ++ ys) = vec kind arg xs ||| vec kind arg ys := by
  induction xs with
  | nil => simp [vec]
  | cons s xs ih => simp only [List.cons_append, vec, ih, BitVec.or_assoc]
theorem label_append (kind arg : Int) (xs ys : List S35) : labelP (xs ++ ys) kind arg = Go.bits .or .u8 (labelP xs kind arg) (labelP ys kind arg) := by
  rw [labelP_vec, labelP_vec, labelP_vec, or_wr, of_wrap, vec_append]
theorem hitsP_append (kind n l : Int) (ys vs : List S37) : ∀ i, hitsP kind n l i (ys ++ vs) = hitsP kind n l i ys ++ hitsP kind n l (i + ys.length) vs := by
  induction ys with
  | nil => intro i; simp [hitsP]
  | cons s ys ih =>
    intro i
    rw [List.cons_append, hitsP_cons, hitsP_cons, ih]
    have e : i + 1 + ys.length = i + (s :: ys).length := by simp; omega
    rw [e]
    by_cases c : hitK s.f0 s.f1 s.f2 kind n l = true
    · rw [if_pos c, if_pos c]; rfl
    · rw [if_neg c, if_neg c]
theorem hitsP_shift (kind n l : Int) (m : Nat) (vs : List S37) : ∀ i, hitsP kind n l (i + m) vs = (hitsP kind n l i vs).map (· + (m : Int)) := by
  induction vs with
  | nil => intro i; simp [hitsP]
  | cons s vs ih =>
    intro i
    rw [hitsP_cons, hitsP_cons]
    have e : i + m + 1 = (i + 1) + m := by omega
    rw [e, ih]
    by_cases c : hitK s.f0 s.f1 s.f2 kind n l = true
    · rw [if_pos c, if_pos c]; simp
    · rw [if_neg c, if_neg c]
theorem hitsP_lt (kind n l : Int) (ys : List S37) : ∀ (i : Nat) (e : Int), e ∈ hitsP kind n l i ys → 0 ≤ e ∧ e < ((i + ys.length : Nat) : Int) := by
  induction ys with
  | nil => intro i e he; simp [hitsP] at he
  | cons s ys ih =>
    intro i e he
    rw [hitsP_cons] at he
    have hl : (s :: ys).length = ys.length + 1 := rfl
    by_cases c : hitK s.f0 s.f1 s.f2 kind n l = true
    · rw [if_pos c] at he
      rcases List.mem_cons.1 he with rfl | he
      · omega
      · have := ih (i + 1) e he; omega
    · rw [if_neg c] at he
      have := ih (i + 1) e he; omega
theorem l0_at (kind arg : Int) (hs ct : List Int) (p q r : Bool) (xs us ts : List S35) (ys vs zs : List S37) (hx : xs.length ≤ 40) (hu : us.length ≤ 40) (ht : ts.length ≤ 80) (hy : ys.length ≤ 40)
    (hh : hs.length ≤ 40) (hb : ∀ e ∈ hs, 0 ≤ e ∧ e < 40) (hc : ct.length ≤ 80) (hl : labelP ts kind arg = Go.bits .or .u8 (labelP xs kind arg) (labelP us kind arg)) (d : Nat) :
    ∀ (k i : Nat) (acc : List Int), acc.length ≤ 40 + i → i ≤ hs.length → hs.length - i = d → d + 100 < k → acc ++ (hs.drop i).map (· + (ys.length : Int)) = ct →
    tincturelaw7_PolicyParts.l0 k kind arg acc hs ct (i : Int) p xs ys q us vs r ts zs = some true := by
  induction d with
  | zero =>
    intro k i acc ha h1 h2 h3 he
    obtain ⟨k, rfl⟩ : ∃ m, k = m + 1 := ⟨k - 1, by omega⟩
    have hi : i = hs.length := by omega
    rw [hi, List.drop_length] at he
    simp only [List.map_nil, List.append_nil] at he
    subst he
    simp only [tincturelaw7_PolicyParts.l0]
    rw [if_neg (by omega), label_at _ _ _ _ _ _ (by omega) (by omega), label_at _ _ _ _ _ _ (by omega) (by omega), label_at _ _ _ _ _ _ (by omega) (by omega)]
    simp only [Option.bind_some]
    rw [if_pos hl, places_at _ _ (by omega) (by omega)]
    rfl
  | succ d ih =>
    intro k i acc ha h1 h2 h3 he
    obtain ⟨k, rfl⟩ : ∃ m, k = m + 1 := ⟨k - 1, by omega⟩
    have hi : i < hs.length := by omega
    have e : rd hs (i : Int) = hs[i] := by simp [rd, hi]
    have hbi := hb hs[i] (List.getElem_mem _)
    have e2 : wrap64 (hs[i] + (ys.length : Int)) = hs[i] + (ys.length : Int) := by unfold wrap64; omega
    simp only [tincturelaw7_PolicyParts.l0]
    rw [if_pos (by omega), if_pos (by omega), if_pos (by omega), e, e2, wrap_up hi (by omega)]
    refine ih k (i + 1) _ (by simp; omega) (by omega) (by omega) (by omega) ?_
    rw [← he, List.drop_eq_getElem_cons hi, List.map_cons, List.append_assoc]; rfl
theorem parts (p : Bool) (xs : List S35) (ys : List S37) (q : Bool) (us : List S35) (vs : List S37) (kind arg l : Int) :
    tincturelaw7_PolicyParts.f 1000 p xs ys q us vs kind arg l = some true := by
  rw [tincturelaw7_PolicyParts.f, tincturelaw7_awake.f]
  simp only [Option.bind_some, if_true]
  rw [long_at, Option.bind_some]
  by_cases h1 : xs.length > 40 ∨ ys.length > 40
  · rw [if_pos (by simp [h1])]; simp only [tincturelaw7_PolicyParts.j0, if_true]
  rw [if_neg (by simp [h1]), long_at, Option.bind_some]
  by_cases h2 : us.length > 40 ∨ vs.length > 40
  · simp only [tincturelaw7_PolicyParts.j0]; rw [if_pos (by simp [h2])]
  have h1' : xs.length ≤ 40 ∧ ys.length ≤ 40 := by omega
  have h2' : us.length ≤ 40 ∧ vs.length ≤ 40 := by omega
  obtain ⟨hx, hy⟩ := h1'; obtain ⟨hu, hv⟩ := h2'
  simp only [tincturelaw7_PolicyParts.j0, Option.bind_some, List.nil_append, List.length_append, List.length_nil]
  rw [if_neg (by simp [h2]), if_pos (by omega), if_pos (by omega), if_pos (by omega), if_pos (by omega)]
  generalize wrap64 (Go.bits .and .u32 arg 7) = a7
  rw [hits_at _ _ _ _ _ _ _ (by omega) (by omega), hits_at _ _ _ _ _ _ _ (by omega) (by omega), hits_at _ _ _ _ _ _ _ (by simp; omega) (by simp; omega)]
  simp only [Option.bind_some]
  have hl1 := hitsP_length kind a7 l ys 0
  have hl2 := hitsP_length kind a7 l vs 0
  have hl3 := hitsP_length kind a7 l (ys ++ vs) 0
  rw [List.length_append] at hl3
  refine l0_at kind arg _ _ _ _ _ _ _ _ _ _ _ hx hu (by simp; omega) hy (by omega) (fun e he => ?_) (by omega) (label_append _ _ _ _) _ 999 0 _ (by omega) (by omega) rfl (by omega) ?_
  · have := hitsP_lt _ _ _ _ _ _ he; omega
  · rw [List.drop_zero, hitsP_append, ← hitsP_shift]
theorem walk (W : World) (x0 : (Bool × List (S35) × List (S37))) (wx0 : wf26 x0) (A0_1 : Option Addr) (c0_1 : Nat) (l0_0 : x0.2.1.length ≤ c0_1) (r0_0 : Kd.C k35 W A0_1 x0.2.1.length x0.2.1) (A0_2 : Option Addr) (c0_2 : Nat) (l0_1 : x0.2.2.length ≤ c0_2) (r0_1 : Kd.C k37 W A0_2 x0.2.2.length x0.2.2) (x1 : (Bool × List (S35) × List (S37))) (wx1 : wf26 x1) (A1_1 : Option Addr) (c1_1 : Nat) (l1_0 : x1.2.1.length ≤ c1_1) (r1_0 : Kd.C k35 W A1_1 x1.2.1.length x1.2.1) (A1_2 : Option Addr) (c1_2 : Nat) (l1_1 : x1.2.2.length ≤ c1_2) (r1_1 : Kd.C k37 W A1_2 x1.2.2.length x1.2.2) (x2 : Int) (wx2 : (Lit.int .i64 x2).wf = true) (x3 : Int) (wx3 : (Lit.int .u32 x3).wf = true) (x4 : Int) (wx4 : (Lit.int .u8 x4).wf = true) :
    Calls Try.prog 8 #[.agg #[.bool x0.1, .slice A0_1 x0.2.1.length c0_1, .slice A0_2 x0.2.2.length c0_2], .agg #[.bool x1.1, .slice A1_1 x1.2.1.length c1_1, .slice A1_2 x1.2.2.length c1_2], .int .i64 x2, .int .u32 x3, .int .u8 x4] W fun e w' => e = .returned (.bool true) ∧ Below W.heap.size W w' :=
  tincturelaw7_PolicyParts.calls 1000 x0.1 A0_1 c0_1 x0.2.1 A0_2 c0_2 x0.2.2 x1.1 A1_1 c1_1 x1.2.1 A1_2 c1_2 x1.2.2 x2 x3 x4 true W r0_0 l0_0 r0_1 l0_1 r1_0 l1_0 r1_1 l1_1 (parts _ _ _ _ _ _ _ _ _)
end Go.Proofs.Ytlhoaejkjhdlgaa.PolicyParts
