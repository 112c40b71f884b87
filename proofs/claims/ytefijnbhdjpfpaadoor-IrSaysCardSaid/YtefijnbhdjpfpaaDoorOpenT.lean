/- The types of these laws' parameters, opened: what the cells of a value that came in are. -/
import Derived.Test.YtefijnbhdjpfpaaDoorOpen
import Derived.Test.YtefijnbhdjpfpaaDoorProg
import Derived.KernelRfl
import Derived.Test.YtefijnbhdjpfpaaDoorI0
namespace Go.Proofs.YtefijnbhdjpfpaaDoor.OpenT
open Go Go.RowKit Go.Proofs.YtefijnbhdjpfpaaDoor.Open Go.Proofs.YtefijnbhdjpfpaaDoorW.PrintWords Go.Proofs.YtefijnbhdjpfpaaDoor.Ir
set_option linter.unusedVariables false
set_option linter.unusedSimpArgs false
variable {w : World}
def wf3 (x : Int) : Prop := (Lit.int .i64 x).wf = true
theorem gv3 (w : World) : Gives Tryd.prog w 3 (fun (x : Int) cs => ((Kd.int .i64)).K w x cs ∧ wf3 x) := by
  exact gives_imp (gives_int Tryd.underlying3) (fun a cs h => h)
def wf23 (x : Int) : Prop := (Lit.int .u32 x).wf = true
theorem gv23 (w : World) : Gives Tryd.prog w 23 (fun (x : Int) cs => ((Kd.int .u32)).K w x cs ∧ wf23 x) := by
  exact gives_imp (gives_int Tryd.underlying23) (fun a cs h => h)
def wf25 (x : S25) : Prop := wf3 x.f0 ∧ wf3 x.f1 ∧ wf3 x.f2 ∧ wf3 x.f3 ∧ wf23 x.f4
theorem gv25 (w : World) : Gives Tryd.prog w 25 (fun (x : S25) cs => (k25).K w x cs ∧ wf25 x) := by
  intro H enc base spare held fuel cs x h
  obtain ⟨ys, m, _, _, hl, hyl, hy⟩ := Go.DataW.trod_struct Tryd.underlying25 h
  have hl' : cs.length = 5 := hl.trans (by kernel_rfl)
  have hyl' : ys.length = 5 := hyl
  have hc3 : Tryd.prog.cellsOf 3 = 1 := by kernel_rfl
  have hc23 : Tryd.prog.cellsOf 23 = 1 := by kernel_rfl
  match cs, hl' with
  | [c0, c1, c2, c3, c4], _ =>
    have g0 := hy 0 _ rfl
    rw [List.getElem?_eq_getElem (by omega)] at g0
    simp only [List.getElem_toArray, List.getElem_cons_zero, List.getElem_cons_succ, hc3, hc23, Nat.zero_mul, Nat.one_mul, Nat.reduceMul, List.drop_zero, List.drop_succ_cons, List.take_succ_cons, List.take_zero] at g0
    obtain ⟨a0, k0, w0⟩ := gv3 w H enc base spare held m _ _ g0
    have g1 := hy 1 _ rfl
    rw [List.getElem?_eq_getElem (by omega)] at g1
    simp only [List.getElem_toArray, List.getElem_cons_zero, List.getElem_cons_succ, hc3, hc23, Nat.zero_mul, Nat.one_mul, Nat.reduceMul, List.drop_zero, List.drop_succ_cons, List.take_succ_cons, List.take_zero] at g1
    obtain ⟨a1, k1, w1⟩ := gv3 w H enc base spare held m _ _ g1
    have g2 := hy 2 _ rfl
    rw [List.getElem?_eq_getElem (by omega)] at g2
    simp only [List.getElem_toArray, List.getElem_cons_zero, List.getElem_cons_succ, hc3, hc23, Nat.zero_mul, Nat.one_mul, Nat.reduceMul, List.drop_zero, List.drop_succ_cons, List.take_succ_cons, List.take_zero] at g2
    obtain ⟨a2, k2, w2⟩ := gv3 w H enc base spare held m _ _ g2
    have g3 := hy 3 _ rfl
    rw [List.getElem?_eq_getElem (by omega)] at g3
    simp only [List.getElem_toArray, List.getElem_cons_zero, List.getElem_cons_succ, hc3, hc23, Nat.zero_mul, Nat.one_mul, Nat.reduceMul, List.drop_zero, List.drop_succ_cons, List.take_succ_cons, List.take_zero] at g3
    obtain ⟨a3, k3, w3⟩ := gv3 w H enc base spare held m _ _ g3
    have g4 := hy 4 _ rfl
    rw [List.getElem?_eq_getElem (by omega)] at g4
    simp only [List.getElem_toArray, List.getElem_cons_zero, List.getElem_cons_succ, hc3, hc23, Nat.zero_mul, Nat.one_mul, Nat.reduceMul, List.drop_zero, List.drop_succ_cons, List.take_succ_cons, List.take_zero] at g4
    obtain ⟨a4, k4, w4⟩ := gv23 w H enc base spare held m _ _ g4
    exact ⟨⟨a0, a1, a2, a3, a4⟩, ⟨_, _, rfl, k0, ⟨_, _, rfl, k1, ⟨_, _, rfl, k2, ⟨_, _, rfl, k3, k4⟩⟩⟩⟩, w0, w1, w2, w3, w4⟩
theorem fl25 {w : World} {x : S25} {cs : List Value} (h : (k25).K w x cs) : cs = [.int .i64 x.f0, .int .i64 x.f1, .int .i64 x.f2, .int .i64 x.f3, .int .u32 x.f4] := by
  obtain ⟨_, _, rfl, rfl, ⟨_, _, rfl, rfl, ⟨_, _, rfl, rfl, ⟨_, _, rfl, rfl, rfl⟩⟩⟩⟩ := h
  exact rfl
def wf31 (x : List (S25)) : Prop := x.length ≤ maxLen ∧ ∀ y0 ∈ x, wf25 y0
theorem gv31 (w : World) : Gives Tryd.prog w 31 (fun (x : List (S25)) cs => ((Kd.slice 25 k25)).K w x cs ∧ wf31 x) := by
  exact gives_slice 25 Tryd.underlying31 (by kernel_rfl) (gv25 w)
theorem fl31 {w : World} {x : List (S25)} {cs : List Value} (h : ((Kd.slice 25 k25)).K w x cs) : ∃ (A : Option Addr) (c : Nat), cs = [.slice A x.length c] ∧ x.length ≤ c ∧ Kd.C k25 w A x.length x := by
  obtain ⟨A_1, c_1, rfl, l_1, r_1⟩ := h
  exact ⟨A_1, c_1, rfl, l_1, r_1⟩
theorem fl3 {w : World} {x : Int} {cs : List Value} (h : ((Kd.int .i64)).K w x cs) : cs = [.int .i64 x] := by
  have e := h
  exact e
end Go.Proofs.YtefijnbhdjpfpaaDoor.OpenT
