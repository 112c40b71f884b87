/- The types of these laws' parameters, opened: what the cells of a value that came in are. -/
import Derived.Test.YtmgbidehdnmjkaaDoorOpen
import Derived.Test.YtmgbidehdnmjkaaDoorProg
import Derived.KernelRfl
namespace Go.Proofs.YtmgbidehdnmjkaaDoor.OpenT
open Go Go.RowKit Go.Proofs.YtmgbidehdnmjkaaDoor.Open Go.Proofs.YtmgbidehdnmjkaaDoorW.PrintWords
set_option linter.unusedVariables false
set_option linter.unusedSimpArgs false
variable {w : World}
def wf22 (x : Int) : Prop := (Lit.int .u32 x).wf = true
theorem gv22 (w : World) : Gives Tryd.prog w 22 (fun (x : Int) cs => ((Kd.int .u32)).K w x cs ∧ wf22 x) := by
  exact gives_imp (gives_int Tryd.underlying22) (fun a cs h => h)
theorem fl22 {w : World} {x : Int} {cs : List Value} (h : ((Kd.int .u32)).K w x cs) : cs = [.int .u32 x] := by
  have e := h
  exact e
def wf3 (x : Int) : Prop := (Lit.int .i64 x).wf = true
theorem gv3 (w : World) : Gives Tryd.prog w 3 (fun (x : Int) cs => ((Kd.int .i64)).K w x cs ∧ wf3 x) := by
  exact gives_imp (gives_int Tryd.underlying3) (fun a cs h => h)
def wf21 (x : Int) : Prop := (Lit.int .i32 x).wf = true
theorem gv21 (w : World) : Gives Tryd.prog w 21 (fun (x : Int) cs => ((Kd.int .i32)).K w x cs ∧ wf21 x) := by
  exact gives_imp (gives_int Tryd.underlying21) (fun a cs h => h)
def wf27 (x : (Int × Int × Int × Int × Int)) : Prop := wf3 x.1 ∧ wf3 x.2.1 ∧ wf3 x.2.2.1 ∧ wf3 x.2.2.2.1 ∧ wf21 x.2.2.2.2
theorem gv27 (w : World) : Gives Tryd.prog w 27 (fun (x : (Int × Int × Int × Int × Int)) cs => ((Kd.pair (Kd.int .i64) (Kd.pair (Kd.int .i64) (Kd.pair (Kd.int .i64) (Kd.pair (Kd.int .i64) (Kd.int .i32)))))).K w x cs ∧ wf27 x) := by
  intro H enc base spare held fuel cs x h
  obtain ⟨ys, m, _, _, hl, hyl, hy⟩ := Go.DataW.trod_struct Tryd.underlying27 h
  have hl' : cs.length = 5 := hl.trans (by kernel_rfl)
  have hyl' : ys.length = 5 := hyl
  have hc3 : Tryd.prog.cellsOf 3 = 1 := by kernel_rfl
  have hc21 : Tryd.prog.cellsOf 21 = 1 := by kernel_rfl
  match cs, hl' with
  | [c0, c1, c2, c3, c4], _ =>
    have g0 := hy 0 _ rfl
    rw [List.getElem?_eq_getElem (by omega)] at g0
    simp only [List.getElem_toArray, List.getElem_cons_zero, List.getElem_cons_succ, hc3, hc21, Nat.zero_mul, Nat.one_mul, Nat.reduceMul, List.drop_zero, List.drop_succ_cons, List.take_succ_cons, List.take_zero] at g0
    obtain ⟨a0, k0, w0⟩ := gv3 w H enc base spare held m _ _ g0
    have g1 := hy 1 _ rfl
    rw [List.getElem?_eq_getElem (by omega)] at g1
    simp only [List.getElem_toArray, List.getElem_cons_zero, List.getElem_cons_succ, hc3, hc21, Nat.zero_mul, Nat.one_mul, Nat.reduceMul, List.drop_zero, List.drop_succ_cons, List.take_succ_cons, List.take_zero] at g1
    obtain ⟨a1, k1, w1⟩ := gv3 w H enc base spare held m _ _ g1
    have g2 := hy 2 _ rfl
    rw [List.getElem?_eq_getElem (by omega)] at g2
    simp only [List.getElem_toArray, List.getElem_cons_zero, List.getElem_cons_succ, hc3, hc21, Nat.zero_mul, Nat.one_mul, Nat.reduceMul, List.drop_zero, List.drop_succ_cons, List.take_succ_cons, List.take_zero] at g2
    obtain ⟨a2, k2, w2⟩ := gv3 w H enc base spare held m _ _ g2
    have g3 := hy 3 _ rfl
    rw [List.getElem?_eq_getElem (by omega)] at g3
    simp only [List.getElem_toArray, List.getElem_cons_zero, List.getElem_cons_succ, hc3, hc21, Nat.zero_mul, Nat.one_mul, Nat.reduceMul, List.drop_zero, List.drop_succ_cons, List.take_succ_cons, List.take_zero] at g3
    obtain ⟨a3, k3, w3⟩ := gv3 w H enc base spare held m _ _ g3
    have g4 := hy 4 _ rfl
    rw [List.getElem?_eq_getElem (by omega)] at g4
    simp only [List.getElem_toArray, List.getElem_cons_zero, List.getElem_cons_succ, hc3, hc21, Nat.zero_mul, Nat.one_mul, Nat.reduceMul, List.drop_zero, List.drop_succ_cons, List.take_succ_cons, List.take_zero] at g4
    obtain ⟨a4, k4, w4⟩ := gv21 w H enc base spare held m _ _ g4
    exact ⟨⟨a0, a1, a2, a3, a4⟩, ⟨_, _, rfl, k0, ⟨_, _, rfl, k1, ⟨_, _, rfl, k2, ⟨_, _, rfl, k3, k4⟩⟩⟩⟩, w0, w1, w2, w3, w4⟩
theorem fl27 {w : World} {x : (Int × Int × Int × Int × Int)} {cs : List Value} (h : ((Kd.pair (Kd.int .i64) (Kd.pair (Kd.int .i64) (Kd.pair (Kd.int .i64) (Kd.pair (Kd.int .i64) (Kd.int .i32)))))).K w x cs) : cs = [.int .i64 x.1, .int .i64 x.2.1, .int .i64 x.2.2.1, .int .i64 x.2.2.2.1, .int .i32 x.2.2.2.2] := by
  obtain ⟨_, _, rfl, rfl, ⟨_, _, rfl, rfl, ⟨_, _, rfl, rfl, ⟨_, _, rfl, rfl, rfl⟩⟩⟩⟩ := h
  exact rfl
theorem fl3 {w : World} {x : Int} {cs : List Value} (h : ((Kd.int .i64)).K w x cs) : cs = [.int .i64 x] := by
  have e := h
  exact e
end Go.Proofs.YtmgbidehdnmjkaaDoor.OpenT
