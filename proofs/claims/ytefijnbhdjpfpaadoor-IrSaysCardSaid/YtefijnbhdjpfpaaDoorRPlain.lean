/- What the reference's has, value, one, Reads, Writes come to: the same plain functions. -/
import Derived.Test.YtefijnbhdjpfpaaDoorPlain
import Derived.Test.YtefijnbhdjpfpaaDoorI6
import Derived.Test.YtefijnbhdjpfpaaDoorI8
namespace Go.Proofs.YtefijnbhdjpfpaaDoor.Ir
open Go Go.RowKit Go.Proofs.YtefijnbhdjpfpaaDoorW.PrintWords Go.Proofs.YtefijnbhdjpfpaaDoorW.PrintLast Go.Proofs.YtefijnbhdjpfpaaDoorW.PrintMore
set_option linter.unusedVariables false
set_option linter.unusedSimpArgs false
/-- The reference's node as ir's. -/
def conv (n : S36) : S25 := ⟨n.f0, n.f1, n.f2, n.f3, n.f4⟩
def hasV (op : Int) : Bool := op == 1 || op == 2 || op == 3 || op == 4 || op == 5 || op == 6 || op == 7 || op == 8 || op == 10 || op == 12 || op == 13 || op == 14 || op == 15 || op == 16 || op == 17 || op == 18 || op == 20
theorem rhas_at (k : Nat) (op : Int) : tinctureref18_has.f (k + 7) op = some ((hasT op).1, (hasT op).2.1, (hasT op).2.2, hasV op) := by
  rcases ops op with rfl | rfl | rfl | rfl | rfl | rfl | rfl | rfl | rfl | rfl | rfl | rfl | rfl | rfl | rfl | rfl | rfl | rfl | rfl | rfl | rfl | h
  all_goals first | rfl | skip
  obtain ⟨n1, n2, n3, n4, n5, n6, n7, n8, n9, n10, n11, n12, n13, n14, n15, n16, n17, n18, n19, n20, n21⟩ := other h
  simp [tinctureref18_has.f, tinctureref18_has.j0, tinctureref18_has.j1, tinctureref18_has.j2, tinctureref18_has.j3, tinctureref18_has.j4, tinctureref18_has.j5, tinctureref18_has.j6, hasT, hasV, *]
theorem rvalue_at (k : Nat) (op v : Int) (h1 : 1 ≤ op) (h21 : op ≤ 21) : tinctureref18_value.f (k + 5) op v = some (valueB op v) := by
  rcases ops op with rfl | rfl | rfl | rfl | rfl | rfl | rfl | rfl | rfl | rfl | rfl | rfl | rfl | rfl | rfl | rfl | rfl | rfl | rfl | rfl | rfl | h
  case inr.inr.inr.inr.inr.inr.inr.inr.inr.inr.inr.inr.inr.inr.inr.inr.inr.inr.inr.inr.inr => omega
  all_goals first
    | rfl
    | (simp [tinctureref18_value.f, tinctureref18_value.j0, tinctureref18_value.j1, tinctureref18_value.j2, tinctureref18_value.j3, tinctureref18_value.j4, valueB, sizedB]; done)
    | (simp [tinctureref18_value.f, tinctureref18_value.j0, tinctureref18_value.j1, tinctureref18_value.j2, tinctureref18_value.j3, tinctureref18_value.j4, valueB, sizedB]; (repeat' split) <;> simp_all <;> omega)
theorem rfield_at (t : Int) (is : Bool) : tinctureref18_field.f t is = some (fieldB is t) := by
  unfold tinctureref18_field.f fieldB
  by_cases h0 : t ≥ 0
  · by_cases h1 : t ≤ 255
    · cases is
      · simp [h0, h1]
      · by_cases hz : t = 0
        · simp [hz]
        · have e : (t == 0) = false := beq_eq_false_iff_ne.2 hz
          rw [if_pos h0, if_pos h1, e, decide_eq_true (show t > 0 by omega), decide_eq_true (show t < 256 by omega)]
          rfl
    · have e : (t == 0) = false := beq_eq_false_iff_ne.2 (by omega)
      rw [if_pos h0, if_neg h1, e, decide_eq_false (show ¬ t < 256 by omega)]
      simp
  · have e : (t == 0) = false := beq_eq_false_iff_ne.2 (by omega)
    rw [if_neg h0, e, decide_eq_false (show ¬ t > 0 by omega)]
    simp
theorem one_at (k : Nat) (n : S36) : tinctureref18_one.f (k + 8) n.f0 n.f1 n.f2 n.f3 n.f4 = some (formedB (conv n)) := by
  unfold tinctureref18_one.f formedB conv
  by_cases h1 : n.f0 < 1
  · rw [if_pos h1, tinctureref18_one.j0, if_pos rfl, decide_eq_false (show ¬ n.f0 ≥ 1 by omega)]
    rfl
  · rw [if_neg h1]
    by_cases h2 : n.f0 > 21
    · rw [if_pos h2, tinctureref18_one.j0, if_pos rfl, decide_eq_false (show ¬ n.f0 ≤ 21 by omega), Bool.and_false]
      rfl
    · rw [if_neg h2, show k + 8 = (k + 3) + 5 by omega, rvalue_at _ _ _ (by omega) (by omega)]
      simp only [Option.bind_some]
      rw [show (k + 3) + 5 = (k + 7) + 1 by omega, tinctureref18_one.j0, decide_eq_true (show n.f0 ≥ 1 by omega), decide_eq_true (show n.f0 ≤ 21 by omega)]
      cases valueB n.f0 n.f4
      · rfl
      · rw [rhas_at]
        simp only [Option.bind_some, rfield_at]
        cases fieldB (hasT n.f0).1 n.f1 <;> cases fieldB (hasT n.f0).2.1 n.f2 <;> cases fieldB (hasT n.f0).2.2 n.f3 <;> rfl
theorem rreads_at (k : Nat) (n : S36) : tinctureref18_Reads.f (k + 7) n.f0 n.f1 n.f2 n.f3 n.f4 = some (readsL (conv n)) := by
  unfold tinctureref18_Reads.f readsL conv
  rw [rhas_at]
  simp only [Option.bind_some]
  cases (hasT n.f0).2.1 <;> cases (hasT n.f0).2.2 <;> by_cases h : n.f0 = 19 <;> simp [tinctureref18_Reads.j0, h]
theorem rwrites_at (n : S36) : tinctureref18_Writes.f n.f0 n.f1 n.f2 n.f3 n.f4 = some (writesP (conv n)) := by
  unfold tinctureref18_Writes.f writesP conv
  by_cases h1 : n.f0 = 1
  · simp [h1]
  · by_cases h2 : n.f0 = 2
    · simp [h2]
    · by_cases h4 : n.f0 = 4
      · simp [h4]
      · by_cases h5 : n.f0 = 5
        · simp [h5]
        · by_cases h6 : n.f0 = 6 <;> simp [h1, h2, h4, h5, h6]
/-- The step, as the reference asks. -/
def tags3 (op : Int) : Bool := op == 14 || op == 16 || op == 17
theorem step_ref (th : Int → Bool) (n : S25) : stepB th n = (formedB n && !((readsL n).any (fun t => !th t)) && !(tags3 n.f0 && !th n.f1)) := by
  unfold stepB
  have e : tagsB n.f0 = (tags3 n.f0 || n.f0 == 19) := rfl
  rw [e]
  by_cases h : n.f0 = 19
  · have hm : n.f1 ∈ readsL n := by unfold readsL; rw [if_pos h]; simp
    have ht : tags3 n.f0 = false := by rw [h]; decide
    have h' : (n.f0 == 19) = true := by rw [h]; decide
    rw [ht, h']
    cases hq : th n.f1
    · have : (readsL n).any (fun t => !th t) = true := List.any_eq_true.2 ⟨n.f1, hm, by rw [hq]; rfl⟩
      rw [this]; simp
    · simp
  · have h' : (n.f0 == 19) = false := beq_eq_false_iff_ne.2 h
    rw [h', Bool.or_false]
    cases formedB n <;> cases (tags3 n.f0 && !th n.f1) <;> simp
theorem rone23 (n : S36) (b : Bool) (h : formedB (conv n) = b) (w : World) : Calls Tryd.prog 23 #[.agg #[.int .i64 n.f0, .int .i64 n.f1, .int .i64 n.f2, .int .i64 n.f3, .int .u32 n.f4]] w fun e w' => e = .returned (.bool b) ∧ Below w.heap.size w w' :=
  tinctureref18_one.calls (0 + 8) _ _ _ _ _ _ w ((one_at 0 n).trans (congrArg some h))
theorem rwrites15 (n : S36) (r1 : Int) (r2 : Bool) (h : writesP (conv n) = (r1, r2)) (w : World) : Calls Tryd.prog 15 #[.agg #[.int .i64 n.f0, .int .i64 n.f1, .int .i64 n.f2, .int .i64 n.f3, .int .u32 n.f4]] w fun e w' => e = .returned (.tuple #[.int .i64 r1, .bool r2]) ∧ Below w.heap.size w w' :=
  tinctureref18_Writes.calls _ _ _ _ _ _ _ w ((rwrites_at n).trans (congrArg some h))
def RReadsE (xs : List Int) (w : World) (e : Ending) (w' : World) : Prop := ∃ (A : Option Addr) (c : Nat), e = .returned (.slice A xs.length c) ∧ xs.length ≤ c ∧ Kd.C (Kd.int .i64) w' A xs.length xs ∧ Below w.heap.size w w'
theorem rreads14 (n : S36) (xs : List Int) (h : readsL (conv n) = xs) (w : World) : Calls Tryd.prog 14 #[.agg #[.int .i64 n.f0, .int .i64 n.f1, .int .i64 n.f2, .int .i64 n.f3, .int .u32 n.f4]] w (RReadsE xs w) := by
  refine (tinctureref18_Reads.calls (0 + 7) _ _ _ _ _ _ w ((rreads_at 0 n).trans (congrArg some h))).mono ?_
  rintro e w' ⟨v, rfl, hR, hb⟩
  obtain ⟨A, c, rfl, hc, hC⟩ := Kd.R_reads hR
  exact ⟨A, c, rfl, hc, hC, hb⟩
end Go.Proofs.YtefijnbhdjpfpaaDoor.Ir
