/- What ir's has, value, formed, tags, Reads, Writes come to, as plain functions. -/
import Derived.Test.YtefijnbhdjpfpaaDoorI4
namespace Go.Proofs.YtefijnbhdjpfpaaDoor.Ir
open Go Go.RowKit Go.Proofs.YtefijnbhdjpfpaaDoorW.PrintWords Go.Proofs.YtefijnbhdjpfpaaDoorW.PrintLast Go.Proofs.YtefijnbhdjpfpaaDoorW.PrintMore
set_option linter.unusedVariables false
set_option linter.unusedSimpArgs false
def hasT (op : Int) : Bool × Bool × Bool :=
  if op = 1 ∨ op = 2 ∨ op = 14 then (true, false, false) else if op = 4 ∨ op = 5 ∨ op = 16 then (true, true, true) else if op = 6 ∨ op = 17 ∨ op = 19 then (true, true, false)
  else if op = 7 ∨ op = 18 then (false, true, true) else if op = 3 ∨ op = 15 ∨ op = 10 ∨ op = 11 ∨ op = 20 ∨ op = 21 then (false, true, false) else (false, false, false)
def sizedB (v : Int) : Bool := v == 1 || v == 2 || v == 4
def valueB (op v : Int) : Bool :=
  if op = 1 ∨ op = 8 ∨ op = 10 ∨ op = 12 then true else if op = 2 ∨ op = 14 then decide (v ≤ 31) else if op = 3 ∨ op = 15 then decide (v ≥ 1) && decide (v ≤ 31) else if op = 4 ∨ op = 16 then decide (v ≤ 17)
  else if op = 5 then decide (v ≤ 7) && (v != 2) && (v != 3) else if op = 6 ∨ op = 17 then sizedB v || v == 9 || v == 10 else if op = 7 ∨ op = 18 then sizedB v
  else if op = 13 then v == 2 || v == 5 || v == 6 else if op = 20 then decide (v ≥ 1) && decide (v ≤ 3) else v == 0
def fieldB (is : Bool) (t : Int) : Bool := t == 0 || (is && decide (t > 0) && decide (t < 256))
def formedB (n : S25) : Bool := decide (n.f0 ≥ 1) && decide (n.f0 ≤ 21) && valueB n.f0 n.f4 && fieldB (hasT n.f0).1 n.f1 && fieldB (hasT n.f0).2.1 n.f2 && fieldB (hasT n.f0).2.2 n.f3
def tagsB (op : Int) : Bool := op == 14 || op == 16 || op == 17 || op == 19
def readsL (n : S25) : List Int := (if (hasT n.f0).2.1 = true then [n.f2] else []) ++ (if (hasT n.f0).2.2 = true then [n.f3] else []) ++ (if n.f0 = 19 then [n.f1] else [])
def writesP (n : S25) : Int × Bool := if n.f0 = 1 ∨ n.f0 = 2 ∨ n.f0 = 4 ∨ n.f0 = 5 ∨ n.f0 = 6 then (n.f1, true) else (0, false)
theorem ops (op : Int) : op = 1 ∨ op = 2 ∨ op = 3 ∨ op = 4 ∨ op = 5 ∨ op = 6 ∨ op = 7 ∨ op = 8 ∨ op = 9 ∨ op = 10 ∨ op = 11 ∨ op = 12 ∨ op = 13 ∨ op = 14 ∨ op = 15 ∨ op = 16 ∨ op = 17 ∨ op = 18 ∨ op = 19 ∨ op = 20 ∨ op = 21 ∨ (op < 1 ∨ 21 < op) := by omega
structure Other (op : Int) : Prop where
  n1 : op ≠ 1
  n2 : op ≠ 2
  n3 : op ≠ 3
  n4 : op ≠ 4
  n5 : op ≠ 5
  n6 : op ≠ 6
  n7 : op ≠ 7
  n8 : op ≠ 8
  n9 : op ≠ 9
  n10 : op ≠ 10
  n11 : op ≠ 11
  n12 : op ≠ 12
  n13 : op ≠ 13
  n14 : op ≠ 14
  n15 : op ≠ 15
  n16 : op ≠ 16
  n17 : op ≠ 17
  n18 : op ≠ 18
  n19 : op ≠ 19
  n20 : op ≠ 20
  n21 : op ≠ 21
theorem other {op : Int} (h : op < 1 ∨ 21 < op) : Other op := by constructor <;> omega
theorem has_at (k : Nat) (op : Int) : ir_has.f (k + 4) op = some (hasT op) := by
  rcases ops op with rfl | rfl | rfl | rfl | rfl | rfl | rfl | rfl | rfl | rfl | rfl | rfl | rfl | rfl | rfl | rfl | rfl | rfl | rfl | rfl | rfl | h
  all_goals first | rfl | skip
  obtain ⟨n1, n2, n3, n4, n5, n6, n7, n8, n9, n10, n11, n12, n13, n14, n15, n16, n17, n18, n19, n20, n21⟩ := other h
  simp [ir_has.f, ir_has.j0, ir_has.j1, ir_has.j2, ir_has.j3, hasT, *]
theorem sized_at (v : Int) : ir_sized.f v = some (sizedB v) := by
  unfold ir_sized.f sizedB
  by_cases h1 : v = 1
  · simp [h1]
  · by_cases h2 : v = 2 <;> simp [h1, h2]
theorem value_out (k : Nat) (op x y z v : Int) (h : op < 1 ∨ 21 < op) : ir_value.f (k + 6) op x y z v = some (valueB op v) := by
  obtain ⟨n1, n2, n3, n4, n5, n6, n7, n8, n9, n10, n11, n12, n13, n14, n15, n16, n17, n18, n19, n20, n21⟩ := other h
  simp [ir_value.f, ir_value.j0, ir_value.j1, ir_value.j2, ir_value.j3, ir_value.j4, ir_value.j5, valueB, sized_at, *]
theorem value_at (k : Nat) (op x y z v : Int) : ir_value.f (k + 6) op x y z v = some (valueB op v) := by
  rcases ops op with rfl | rfl | rfl | rfl | rfl | rfl | rfl | rfl | rfl | rfl | rfl | rfl | rfl | rfl | rfl | rfl | rfl | rfl | rfl | rfl | rfl | h
  case inr.inr.inr.inr.inr.inr.inr.inr.inr.inr.inr.inr.inr.inr.inr.inr.inr.inr.inr.inr.inr => exact value_out k op x y z v h
  all_goals first
    | rfl
    | (simp [ir_value.f, ir_value.j0, ir_value.j1, ir_value.j2, ir_value.j3, ir_value.j4, ir_value.j5, valueB, sized_at]; done)
    | (simp [ir_value.f, ir_value.j0, ir_value.j1, ir_value.j2, ir_value.j3, ir_value.j4, ir_value.j5, valueB, sized_at]; (repeat' split) <;> simp_all <;> omega)
theorem field_at (is : Bool) (t : Int) : ir_field.f is t = some (fieldB is t) := by
  unfold ir_field.f fieldB
  by_cases h1 : t = 0
  · simp [h1]
  · have e : (t == 0) = false := beq_eq_false_iff_ne.2 h1
    rw [if_neg h1, e]
    cases is
    · simp
    · by_cases h2 : 0 < t <;> simp [h2]
theorem formed_at (k : Nat) (n : S25) : ir_formed.f (k + 6) n.f0 n.f1 n.f2 n.f3 n.f4 = some (formedB n) := by
  unfold ir_formed.f formedB
  rw [show k + 6 = (k + 2) + 4 by omega, has_at, show (k + 2) + 4 = k + 6 by omega, value_at]
  simp only [Option.bind_some, field_at]
  by_cases h1 : n.f0 ≥ 1
  · by_cases h2 : n.f0 ≤ 21
    · cases valueB n.f0 n.f4 <;> cases fieldB (hasT n.f0).1 n.f1 <;> cases fieldB (hasT n.f0).2.1 n.f2 <;> cases fieldB (hasT n.f0).2.2 n.f3 <;> simp [h1, h2]
    · simp [h1, h2]
  · simp [h1]
theorem tags_at (op : Int) : ir_tags.f op = some (tagsB op) := by
  unfold ir_tags.f tagsB
  by_cases h1 : op = 14
  · simp [h1]
  · by_cases h2 : op = 16
    · simp [h2]
    · by_cases h3 : op = 17 <;> simp [h1, h2, h3]
theorem reads_at (k : Nat) (n : S25) : ir_Reads.f (k + 4) n.f0 n.f1 n.f2 n.f3 n.f4 = some (readsL n) := by
  unfold ir_Reads.f readsL
  rw [has_at]
  simp only [Option.bind_some]
  cases (hasT n.f0).2.1 <;> cases (hasT n.f0).2.2 <;> by_cases h : n.f0 = 19 <;> simp [ir_Reads.j0, h]
theorem writes_at (n : S25) : ir_Writes.f n.f0 n.f1 n.f2 n.f3 n.f4 = some (writesP n) := by
  unfold ir_Writes.f writesP
  by_cases h1 : n.f0 = 1
  · simp [h1]
  · by_cases h2 : n.f0 = 2
    · simp [h2]
    · by_cases h4 : n.f0 = 4
      · simp [h4]
      · by_cases h5 : n.f0 = 5
        · simp [h5]
        · by_cases h6 : n.f0 = 6 <;> simp [h1, h2, h4, h5, h6]
/-- What the whole list comes to. -/
def upd (th : Int → Bool) (t : Int) : Int → Bool := fun i => if i = t then true else th i
def stepB (th : Int → Bool) (n : S25) : Bool := formedB n && !(tagsB n.f0 && !th n.f1) && !((readsL n).any (fun t => !th t))
def nextT (th : Int → Bool) (n : S25) : Int → Bool := if (writesP n).2 = true then upd th (writesP n).1 else th
def foldB : List S25 → (Int → Bool) → Bool
  | [], _ => true
  | n :: r, th => stepB th n && foldB r (nextT th n)
def lastB (l : List S25) : Bool := decide ((rd_T25 l ((l.length : Int) - 1)).f0 ≥ 11) && decide ((rd_T25 l ((l.length : Int) - 1)).f0 ≤ 13)
def goodB (l : List S25) : Bool := if l.length = 0 then false else if 2000 < l.length then false else if (rd_T25 l 0).f0 = 8 then foldB l (fun _ => false) && lastB l else false
/-- What formed lets through lies within the array. -/
theorem field_in {is : Bool} {t : Int} (h : fieldB is t = true) : 0 ≤ t ∧ t < 256 := by
  unfold fieldB at h
  simp only [Bool.or_eq_true, beq_iff_eq, Bool.and_eq_true, decide_eq_true_eq] at h
  omega
theorem formed_in {n : S25} (h : formedB n = true) : (0 ≤ n.f1 ∧ n.f1 < 256) ∧ (0 ≤ n.f2 ∧ n.f2 < 256) ∧ (0 ≤ n.f3 ∧ n.f3 < 256) := by
  unfold formedB at h
  simp only [Bool.and_eq_true] at h
  exact ⟨field_in h.1.1.2, field_in h.1.2, field_in h.2⟩
theorem reads_in {n : S25} (h : formedB n = true) : ∀ j, j < (readsL n).length → 0 ≤ (readsL n).getD j 0 ∧ (readsL n).getD j 0 < 256 := by
  obtain ⟨h1, h2, h3⟩ := formed_in h
  have : ∀ x ∈ readsL n, 0 ≤ x ∧ x < 256 := by
    intro x hx
    unfold readsL at hx
    simp only [List.mem_append] at hx
    rcases hx with (hx | hx) | hx <;> split at hx <;> simp at hx <;> subst hx <;> assumption
  intro j hj
  rw [List.getD_eq_getElem?_getD, List.getElem?_eq_getElem hj]
  exact this _ (List.getElem_mem hj)
theorem reads_len (n : S25) : (readsL n).length ≤ 3 := by
  unfold readsL
  simp only [List.length_append]
  split <;> split <;> split <;> simp
theorem writes_in {n : S25} (h : formedB n = true) : 0 ≤ (writesP n).1 ∧ (writesP n).1 < 256 := by
  unfold writesP
  split
  · exact (formed_in h).1
  · exact ⟨by decide, by decide⟩
end Go.Proofs.YtefijnbhdjpfpaaDoor.Ir
