/- What the small functions over labels answer, over bit vectors. -/
import Derived.Test.YtbhoijkamnaopaaTagPure
import Derived.Test.YtbhoijkamnaopaaTagExt
import Derived.Test.YtbhoijkamnaopaaTagNarrow
namespace Go.Proofs.Ytbhoijkamnaopaa.Tag
open Go Go.RowKit Go.Proofs.Ytbhoijkamnaopaa
set_option linter.unusedVariables false
set_option linter.unusedSimpArgs false
theorem bitsEq {x y : BitVec 8} (h : ∀ i, x.getLsbD i = y.getLsbD i) : x = y := BitVec.eq_of_getLsbD_eq (fun i _ => h i)
def tagF (f : TF) : Value := tagOf (ofF f)
theorem tagF_at {f g : TF} (h : ∀ q, q < 4 → f q = g q) : tagF f = tagF g := by unfold tagF; rw [ofF_at h]
theorem tagF_of {f : TF} {x : T4} (h : x = ofF f) : tagOf x = tagF f := by rw [h]; rfl
theorem joinC (f g : TF) (w : World) : Calls Try.prog 18 #[tagF f, tagF g] w (RetE (tagF (joinF f g)) w) := by
  rw [← tagF_of (joinT_ofF f g)]
  exact join18E (iv (f 0)) (iv (f 1)) (iv (f 2)) (iv (f 3)) (iv (g 0)) (iv (g 1)) (iv (g 2)) (iv (g 3)) w
theorem joinR (f g : TF) (w : World) : Calls Try.prog 24 #[tagF f, tagF g] w (RetE (tagF (joinF f g)) w) := by
  rw [← tagF_of (joinT_ofF f g)]
  exact join24E (iv (f 0)) (iv (f 1)) (iv (f 2)) (iv (f 3)) (iv (g 0)) (iv (g 1)) (iv (g 2)) (iv (g 3)) w
theorem allC (f : TF) (w : World) : Calls Try.prog 17 #[tagF f] w (RetE (.int .u8 (iv (allF f))) w) := by
  rw [← allT_ofF]
  exact all17E (iv (f 0)) (iv (f 1)) (iv (f 2)) (iv (f 3)) w
theorem allR (f : TF) (w : World) : Calls Try.prog 22 #[tagF f] w (RetE (.int .u8 (iv (allF f))) w) := by
  rw [← allT_ofF]
  exact all22E (iv (f 0)) (iv (f 1)) (iv (f 2)) (iv (f 3)) w
theorem fillC (x : BitVec 8) (w : World) : Calls Try.prog 20 #[.int .u8 (iv x)] w (RetE (tagF (fun _ => x)) w) := fill20E (iv x) w
theorem fillR (x : BitVec 8) (w : World) : Calls Try.prog 23 #[.int .u8 (iv x)] w (RetE (tagF (fun _ => x)) w) := fill23E (iv x) w
theorem upC (f : TF) (w : World) : Calls Try.prog 19 #[tagF f] w (RetE (tagF (upF f)) w) := by
  rw [← tagF_of (upT_ofF f)]
  exact up19E (iv (f 0)) (iv (f 1)) (iv (f 2)) (iv (f 3)) w
theorem upR (f : TF) (w : World) : Calls Try.prog 25 #[tagF f] w (RetE (tagF (upF f)) w) := by
  have h := Ret.e (up25 (iv (f 0)) (iv (f 1)) (iv (f 2)) (iv (f 3)) w) (by (repeat' (first | assumption | exact Ext.refl _ | refine Ext.drewN ?_ | refine Ext.drew ?_ | refine Ext.alloc ?_)))
  have e : tagF (upF f) = .agg #[.int .u8 (iv (f 0)), .int .u8 (or8 (iv (f 0)) (iv (f 1))), .int .u8 (or8 (or8 (iv (f 0)) (iv (f 1))) (iv (f 2))), .int .u8 (or8 (or8 (or8 (iv (f 0)) (iv (f 1))) (iv (f 2))) (iv (f 3)))] := by
    simp only [or8_iv]
    show Value.agg #[.int .u8 (iv (f 0)), .int .u8 (iv (f 1 ||| f 0)), .int .u8 (iv (f 2 ||| (f 1 ||| f 0))), .int .u8 (iv (f 3 ||| (f 2 ||| (f 1 ||| f 0))))] = _
    have e1 : f 1 ||| f 0 = f 0 ||| f 1 := bitsEq (fun i => by simp only [BitVec.getLsbD_or, Bool.or_comm])
    have e2 : f 2 ||| (f 1 ||| f 0) = f 0 ||| f 1 ||| f 2 := bitsEq (fun i => by simp only [BitVec.getLsbD_or]; cases (f 0).getLsbD i <;> cases (f 1).getLsbD i <;> cases (f 2).getLsbD i <;> rfl)
    have e3 : f 3 ||| (f 2 ||| (f 1 ||| f 0)) = f 0 ||| f 1 ||| f 2 ||| f 3 := bitsEq (fun i => by simp only [BitVec.getLsbD_or]; cases (f 0).getLsbD i <;> cases (f 1).getLsbD i <;> cases (f 2).getLsbD i <;> cases (f 3).getLsbD i <;> rfl)
    rw [e3, e2, e1]
  rw [e]
  exact h
/-- A narrowed number's labels. -/
def narF (f : TF) (k : Int) (sg : Bool) : TF := fun q =>
  if k = 1 then (if q = 0 then f 0 else if sg then f 0 else 0) else if k = 2 then (if q = 0 then f 0 else if q = 1 then f 1 else if sg then f 1 else 0) else f q
theorem narC (f : TF) (k : Int) (sg : Bool) (w : World) : Calls Try.prog 21 #[tagF f, .int .i64 k, .bool sg] w (RetE (tagF (narF f k sg)) w) := by
  by_cases h1 : k = 1
  · subst h1
    cases sg
    · exact Ret.e (narrow21_1f _ _ _ _ w) (by (repeat' (first | assumption | exact Ext.refl _ | refine Ext.drewN ?_ | refine Ext.drew ?_ | refine Ext.alloc ?_)))
    · exact Ret.e (narrow21_1t _ _ _ _ w) (by (repeat' (first | assumption | exact Ext.refl _ | refine Ext.drewN ?_ | refine Ext.drew ?_ | refine Ext.alloc ?_)))
  by_cases h2 : k = 2
  · subst h2
    cases sg
    · exact Ret.e (narrow21_2f _ _ _ _ w) (by (repeat' (first | assumption | exact Ext.refl _ | refine Ext.drewN ?_ | refine Ext.drew ?_ | refine Ext.alloc ?_)))
    · exact Ret.e (narrow21_2t _ _ _ _ w) (by (repeat' (first | assumption | exact Ext.refl _ | refine Ext.drewN ?_ | refine Ext.drew ?_ | refine Ext.alloc ?_)))
  have e : narF f k sg = f := by
    funext q
    unfold narF
    rw [if_neg h1, if_neg h2]
  rw [e]
  exact Ret.e (narrow21_o _ _ _ _ w k sg h1 h2) (by (repeat' (first | assumption | exact Ext.refl _ | refine Ext.drewN ?_ | refine Ext.drew ?_ | refine Ext.alloc ?_)))
theorem narR (f : TF) (k : Int) (sg : Bool) (w : World) : Calls Try.prog 26 #[tagF f, .int .i64 k, .bool sg] w (RetE (tagF (narF f k sg)) w) := by
  by_cases h1 : k = 1
  · subst h1
    cases sg
    · exact Ret.e (narrow26_1f _ _ _ _ w) (by (repeat' (first | assumption | exact Ext.refl _ | refine Ext.drewN ?_ | refine Ext.drew ?_ | refine Ext.alloc ?_)))
    · exact Ret.e (narrow26_1t _ _ _ _ w) (by (repeat' (first | assumption | exact Ext.refl _ | refine Ext.drewN ?_ | refine Ext.drew ?_ | refine Ext.alloc ?_)))
  by_cases h2 : k = 2
  · subst h2
    cases sg
    · exact Ret.e (narrow26_2f _ _ _ _ w) (by (repeat' (first | assumption | exact Ext.refl _ | refine Ext.drewN ?_ | refine Ext.drew ?_ | refine Ext.alloc ?_)))
    · exact Ret.e (narrow26_2t _ _ _ _ w) (by (repeat' (first | assumption | exact Ext.refl _ | refine Ext.drewN ?_ | refine Ext.drew ?_ | refine Ext.alloc ?_)))
  have e : narF f k sg = f := by
    funext q
    unfold narF
    rw [if_neg h1, if_neg h2]
  rw [e]
  exact Ret.e (narrow26_o _ _ _ _ w k sg h1 h2) (by (repeat' (first | assumption | exact Ext.refl _ | refine Ext.drewN ?_ | refine Ext.drew ?_ | refine Ext.alloc ?_)))
theorem join_comm (f g : TF) : joinF f g = joinF g f := funext fun q => BitVec.or_comm _ _
theorem join_assoc (f g h : TF) : joinF (joinF f g) h = joinF f (joinF g h) := funext fun q => BitVec.or_assoc _ _ _
theorem join_self (f : TF) : joinF f f = f := funext fun q => BitVec.or_self
theorem join_none (f : TF) : joinF f (fun _ => 0) = f := funext fun q => BitVec.or_zero
theorem up_up (f : TF) : tagF (upF (upF f)) = tagF (upF f) := tagF_at (fun q hq => by
  refine bitsEq (fun i => ?_)
  rcases (by omega : q = 0 ∨ q = 1 ∨ q = 2 ∨ q = 3) with rfl | rfl | rfl | rfl <;> simp only [upF, BitVec.getLsbD_or] <;> cases (f 0).getLsbD i <;> cases (f 1).getLsbD i <;> cases (f 2).getLsbD i <;> cases (f 3).getLsbD i <;> rfl)
theorem all_up (f : TF) : allF (upF f) = allF f := by
  refine bitsEq (fun i => ?_)
  simp only [allF, upF, BitVec.getLsbD_or]
  cases (f 0).getLsbD i <;> cases (f 1).getLsbD i <;> cases (f 2).getLsbD i <;> cases (f 3).getLsbD i <;> rfl
theorem all_join (f g : TF) : allF (joinF f g) = allF f ||| allF g := by
  refine bitsEq (fun i => ?_)
  simp only [allF, joinF, BitVec.getLsbD_or]
  cases (f 0).getLsbD i <;> cases (f 1).getLsbD i <;> cases (f 2).getLsbD i <;> cases (f 3).getLsbD i <;> cases (g 0).getLsbD i <;> cases (g 1).getLsbD i <;> cases (g 2).getLsbD i <;> cases (g 3).getLsbD i <;> rfl
end Go.Proofs.Ytbhoijkamnaopaa.Tag
