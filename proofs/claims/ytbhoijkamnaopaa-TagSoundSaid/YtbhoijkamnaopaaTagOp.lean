/- The contracts with their answers as variables. -/
import Derived.Test.YtbhoijkamnaopaaTagMasked
import Derived.Test.YtbhoijkamnaopaaTagNarrow
import Derived.Test.YtbhoijkamnaopaaAlu
import Derived.ChangeKeysEq
import Derived.Below
import Derived.WalkSmall
import Derived.StillTailTactics
import Derived.BigRegion
import Derived.LoopN
import Derived.Deep.RegionHeld3
import Derived.Lib.Hide
namespace Go.Proofs.Ytbhoijkamnaopaa.Tag
open Go Go.RowKit Go.Proofs.YtbhoijkamnaopaaW.PrintWords Go.Proofs.YtbhoijkamnaopaaW.PrintLast Go.Proofs.YtbhoijkamnaopaaW.PrintMore
set_option linter.unusedVariables false
set_option linter.unusedSimpArgs false
theorem tk_drew {w : World} {a : Addr} {v : Option Value} (h : w.cell? a = v) : w.drew.cell? a = v := h
theorem tk_drewN {w : World} {n : Nat} {a : Addr} {v : Option Value} (h : w.cell? a = v) : (w.drewN n).cell? a = v := h
theorem tk_alloc {w : World} {o : Obj} {a : Addr} {v : Value} (h : w.cell? a = some v) : (w.alloc o).cell? a = some v := by
  rw [World.cell?_alloc_lt _ _ _ (World.block_lt_of_cell? w a h)]; exact h
theorem tk_new {w : World} {c : Array Value} {t : TypeId} {b off : Nat} {v : Value} (hb : b = w.heap.size) (hc : c[off]? = some v) : (w.alloc (.cells c t)).cell? ⟨b, off, none⟩ = some v := by
  subst hb
  rw [World.cell?_alloc_new]; exact hc
/-- What stood before stands. -/
def Ext (w w' : World) : Prop := Below w.heap.size w w'
theorem Ext.refl (w : World) : Ext w w := Below.refl _ w
theorem Ext.alloc {w w' : World} {o : Obj} (h : Ext w w') : Ext w (w'.alloc o) := Below.alloc h (Below.size h) o
theorem Ext.drewN {w w' : World} {n : Nat} (h : Ext w w') : Ext w (w'.drewN n) := below_drewN h n
theorem Ext.drew {w w' : World} (h : Ext w w') : Ext w w'.drew := Below.drew h
theorem Ext.trans {a b c : World} (h : Ext a b) (k : Ext b c) : Ext a c := Below.trans h (Below.mono k (Below.size h))
theorem Ext.cell {w w' : World} {p : Addr} {v : Value} (h : Ext w w') (hp : w.cell? p = some v) : w'.cell? p = some v := (Below.cell h (World.block_lt_of_cell? w p hp)).trans hp
def RetE (v : Value) (w : World) (e : Ending) (w' : World) : Prop := e = .returned v ∧ Ext w w'
def allT (t : T4) : Int := or8 (or8 (or8 t.1 t.2.1) t.2.2.1) t.2.2.2
def joinT (s t : T4) : T4 := (or8 s.1 t.1, or8 s.2.1 t.2.1, or8 s.2.2.1 t.2.2.1, or8 s.2.2.2 t.2.2.2)
def upT (t : T4) : T4 := (t.1, or8 t.2.1 t.1, or8 t.2.2.1 (or8 t.2.1 t.1), or8 t.2.2.2 (or8 t.2.2.1 (or8 t.2.1 t.1)))
def fillT (l : Int) : T4 := (l, l, l, l)
@[go_sem] theorem eq24 (w : World) (a0 a1 a2 a3 b0 b1 b2 b3 : Int) : (Op.equalIn 10000 24 (.agg #[.int .u8 a0, .int .u8 a1, .int .u8 a2, .int .u8 a3]) (.agg #[.int .u8 b0, .int .u8 b1, .int .u8 b2, .int .u8 b3])).run Try.prog w = .ok (a0 == b0 && (a1 == b1 && (a2 == b2 && a3 == b3))) w := by
  have hc : Try.prog.cellsOf 5 = 1 := by kernel_rfl
  have hi : ∃ i, Try.prog.info? 5 = some i := Option.isSome_iff_exists.mp (by kernel_rfl)
  obtain ⟨i, hi⟩ := hi
  rw [run_equalIn_array (d := 9999) (e := 5) (n := 4) (i := i) (hu := Try.underlying24) (hi := hi)]
  simp only [hc, show List.range 4 = [0, 1, 2, 3] from rfl, Op.eqItems]
  go_simp
  by_cases h0 : a0 = b0 <;> by_cases h1 : a1 = b1 <;> by_cases h2 : a2 = b2 <;> by_cases h3 : a3 = b3 <;> simp [h0, h1, h2, h3]
theorem all17o (a0 a1 a2 a3 : Int) (w : World) : Calls Try.prog 17 #[.agg #[.int .u8 a0, .int .u8 a1, .int .u8 a2, .int .u8 a3]] w (Ret (.int .u8 (allT (a0, a1, a2, a3))) (w.alloc (.cells #[.int .u8 a0, .int .u8 a1, .int .u8 a2, .int .u8 a3] 24))) := all17 _ _ _ _ w
theorem all22o (a0 a1 a2 a3 : Int) (w : World) : Calls Try.prog 22 #[.agg #[.int .u8 a0, .int .u8 a1, .int .u8 a2, .int .u8 a3]] w (Ret (.int .u8 (allT (a0, a1, a2, a3))) (w.alloc (.cells #[.int .u8 a0, .int .u8 a1, .int .u8 a2, .int .u8 a3] 24))) := all22 _ _ _ _ w
theorem join18o (a0 a1 a2 a3 b0 b1 b2 b3 : Int) : ∃ x0 x1 x2 x3, joinT (a0, a1, a2, a3) (b0, b1, b2, b3) = (x0, x1, x2, x3) ∧ ∀ w : World, Calls Try.prog 18 #[.agg #[.int .u8 a0, .int .u8 a1, .int .u8 a2, .int .u8 a3], .agg #[.int .u8 b0, .int .u8 b1, .int .u8 b2, .int .u8 b3]] w (Ret (.agg #[.int .u8 x0, .int .u8 x1, .int .u8 x2, .int .u8 x3]) (((w.alloc (.cells #[.int .u8 x0, .int .u8 x1, .int .u8 x2, .int .u8 x3] 24)).alloc (.cells #[.int .u8 b0, .int .u8 b1, .int .u8 b2, .int .u8 b3] 24)).alloc (.cells #[.int .u8 x0, .int .u8 x1, .int .u8 x2, .int .u8 x3] 24))) :=
  ⟨_, _, _, _, rfl, fun w => join18 _ _ _ _ _ _ _ _ w⟩
theorem join24o (a0 a1 a2 a3 b0 b1 b2 b3 : Int) : ∃ x0 x1 x2 x3, joinT (a0, a1, a2, a3) (b0, b1, b2, b3) = (x0, x1, x2, x3) ∧ ∀ w : World, Calls Try.prog 24 #[.agg #[.int .u8 a0, .int .u8 a1, .int .u8 a2, .int .u8 a3], .agg #[.int .u8 b0, .int .u8 b1, .int .u8 b2, .int .u8 b3]] w (Ret (.agg #[.int .u8 x0, .int .u8 x1, .int .u8 x2, .int .u8 x3]) (((w.alloc (.cells #[.int .u8 a0, .int .u8 a1, .int .u8 a2, .int .u8 a3] 24)).alloc (.cells #[.int .u8 b0, .int .u8 b1, .int .u8 b2, .int .u8 b3] 24)).alloc (.cells #[.int .u8 x0, .int .u8 x1, .int .u8 x2, .int .u8 x3] 24))) :=
  ⟨_, _, _, _, rfl, fun w => join24 _ _ _ _ _ _ _ _ w⟩
theorem up19o (a0 a1 a2 a3 : Int) : ∃ x0 x1 x2 x3, upT (a0, a1, a2, a3) = (x0, x1, x2, x3) ∧ ∀ w : World, Calls Try.prog 19 #[.agg #[.int .u8 a0, .int .u8 a1, .int .u8 a2, .int .u8 a3]] w (Ret (.agg #[.int .u8 x0, .int .u8 x1, .int .u8 x2, .int .u8 x3]) ((w.alloc (.cells #[.int .u8 x0, .int .u8 x1, .int .u8 x2, .int .u8 x3] 24)).alloc (.cells #[.int .u8 x0, .int .u8 x1, .int .u8 x2, .int .u8 x3] 24))) :=
  ⟨_, _, _, _, rfl, fun w => up19 _ _ _ _ w⟩
/-- A byte of an and, and of a shift. -/
theorem masked27o (a b a0 a1 a2 a3 b0 b1 b2 b3 : Int) (ha : 0 ≤ a) (ha' : a < 4294967296) (hb : 0 ≤ b) (hb' : b < 4294967296) : ∃ x0 x1 x2 x3, mAcc a b (a0, a1, a2, a3) (b0, b1, b2, b3) 4 = (x0, x1, x2, x3) ∧ ∀ w : World, Calls Try.prog 27 #[.int .u32 a, .int .u32 b, .agg #[.int .u8 a0, .int .u8 a1, .int .u8 a2, .int .u8 a3], .agg #[.int .u8 b0, .int .u8 b1, .int .u8 b2, .int .u8 b3]] w (Ret (.agg #[.int .u8 x0, .int .u8 x1, .int .u8 x2, .int .u8 x3]) ((((w.alloc (.cells #[.int .u8 a0, .int .u8 a1, .int .u8 a2, .int .u8 a3] 24)).alloc (.cells #[.int .u8 b0, .int .u8 b1, .int .u8 b2, .int .u8 b3] 24)).alloc (.cells #[.int .u8 x0, .int .u8 x1, .int .u8 x2, .int .u8 x3] 24)).alloc (.cells #[.int .u8 x0, .int .u8 x1, .int .u8 x2, .int .u8 x3] 24))) :=
  ⟨_, _, _, _, rfl, fun w => masked27 _ _ _ _ _ _ _ _ _ _ w ha ha' hb hb'⟩
theorem shifted2o (by_ a0 a1 a2 a3 : Int) (q0 : 0 ≤ by_) (q1 : by_ < 32) : ∃ x0 x1 x2 x3, shAcc 2 by_ (a0, a1, a2, a3) 32 = (x0, x1, x2, x3) ∧ ∀ w : World, Calls Try.prog 28 #[.int .i64 2, .int .i64 by_, .agg #[.int .u8 a0, .int .u8 a1, .int .u8 a2, .int .u8 a3]] w (Ret (.agg #[.int .u8 x0, .int .u8 x1, .int .u8 x2, .int .u8 x3]) (((w.alloc (.cells #[.int .u8 a0, .int .u8 a1, .int .u8 a2, .int .u8 a3] 24)).alloc (.cells #[.int .u8 x0, .int .u8 x1, .int .u8 x2, .int .u8 x3] 24)).alloc (.cells #[.int .u8 x0, .int .u8 x1, .int .u8 x2, .int .u8 x3] 24))) :=
  ⟨_, _, _, _, rfl, fun w => shifted2 _ _ _ _ _ w q0 q1⟩
theorem shifted6o (by_ a0 a1 a2 a3 : Int) (q0 : 0 ≤ by_) (q1 : by_ < 32) : ∃ x0 x1 x2 x3, shAcc 6 by_ (a0, a1, a2, a3) 32 = (x0, x1, x2, x3) ∧ ∀ w : World, Calls Try.prog 28 #[.int .i64 6, .int .i64 by_, .agg #[.int .u8 a0, .int .u8 a1, .int .u8 a2, .int .u8 a3]] w (Ret (.agg #[.int .u8 x0, .int .u8 x1, .int .u8 x2, .int .u8 x3]) (((w.alloc (.cells #[.int .u8 a0, .int .u8 a1, .int .u8 a2, .int .u8 a3] 24)).alloc (.cells #[.int .u8 x0, .int .u8 x1, .int .u8 x2, .int .u8 x3] 24)).alloc (.cells #[.int .u8 x0, .int .u8 x1, .int .u8 x2, .int .u8 x3] 24))) :=
  ⟨_, _, _, _, rfl, fun w => shifted6 _ _ _ _ _ w q0 q1⟩
theorem shifted7o (by_ a0 a1 a2 a3 : Int) (q0 : 0 ≤ by_) (q1 : by_ < 32) : ∃ x0 x1 x2 x3, shAcc 7 by_ (a0, a1, a2, a3) 32 = (x0, x1, x2, x3) ∧ ∀ w : World, Calls Try.prog 28 #[.int .i64 7, .int .i64 by_, .agg #[.int .u8 a0, .int .u8 a1, .int .u8 a2, .int .u8 a3]] w (Ret (.agg #[.int .u8 x0, .int .u8 x1, .int .u8 x2, .int .u8 x3]) (((w.alloc (.cells #[.int .u8 a0, .int .u8 a1, .int .u8 a2, .int .u8 a3] 24)).alloc (.cells #[.int .u8 x0, .int .u8 x1, .int .u8 x2, .int .u8 x3] 24)).alloc (.cells #[.int .u8 x0, .int .u8 x1, .int .u8 x2, .int .u8 x3] 24))) :=
  ⟨_, _, _, _, rfl, fun w => shifted7 _ _ _ _ _ w q0 q1⟩
end Go.Proofs.Ytbhoijkamnaopaa.Tag
