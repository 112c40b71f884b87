/- The types of these laws' parameters, opened: what the cells of a value that came in are. -/
import Derived.Test.YtnmfmcjgjjanfaaOpen
import Derived.Test.YtnmfmcjgjjanfaaProg
import Derived.KernelRfl
import Derived.Test.YtnmfmcjgjjanfaaI0
namespace Go.Proofs.Ytnmfmcjgjjanfaa.OpenT
open Go Go.RowKit Go.Proofs.Ytnmfmcjgjjanfaa.Open Go.Proofs.YtnmfmcjgjjanfaaW.PrintWords Go.Proofs.Ytnmfmcjgjjanfaa.Pr
set_option linter.unusedVariables false
set_option linter.unusedSimpArgs false
variable {w : World}
def wf3 (x : Int) : Prop := (Lit.int .i64 x).wf = true
theorem gv3 (w : World) : Gives Try.prog w 3 (fun (x : Int) cs => ((Kd.int .i64)).K w x cs ∧ wf3 x) := by
  exact gives_imp (gives_int Try.underlying3) (fun a cs h => h)
def wf23 (x : Int) : Prop := (Lit.int .u32 x).wf = true
theorem gv23 (w : World) : Gives Try.prog w 23 (fun (x : Int) cs => ((Kd.int .u32)).K w x cs ∧ wf23 x) := by
  exact gives_imp (gives_int Try.underlying23) (fun a cs h => h)
def wf25 (x : S25) : Prop := wf3 x.f0 ∧ wf3 x.f1 ∧ wf3 x.f2 ∧ wf3 x.f3 ∧ wf23 x.f4
set_option maxRecDepth 100000 in
theorem gv25 (w : World) : Gives Try.prog w 25 (fun (x : S25) cs => (k25).K w x cs ∧ wf25 x) := by
  intro H enc base spare held fuel cs x h
  obtain ⟨ys, m, _, _, hl, hyl, hy⟩ := Go.DataW.trod_struct Try.underlying25 h
  have hl' : cs.length = 5 := hl.trans (by kernel_rfl)
  have hyl' : ys.length = 5 := hyl
  have hc3 : Try.prog.cellsOf 3 = 1 := by kernel_rfl
  have hc23 : Try.prog.cellsOf 23 = 1 := by kernel_rfl
  match cs, hl' with
  | [c0, c1, c2, c3, c4], _ =>
    have g0 := hy 0 _ rfl
    rw [List.getElem?_eq_getElem (by omega)] at g0
    simp only [List.getElem_toArray, List.getElem_cons_zero, List.getElem_cons_succ, hc3, hc23, Nat.zero_mul, Nat.one_mul, Nat.reduceMul, List.drop_zero, List.drop_succ_cons, List.take_succ_cons, List.take_zero] at g0
    obtain ⟨a0, k0, w0⟩ := gv3 w H enc base spare held m _ _ g0
    have g1 := hy 1 _ rfl
    rw [List.getElem?_eq_getElem (by omega)] at g1
    simp only [List.getElem_toArray, List.getElem_cons_zero, List.getElem_cons_succ, hc3, hc23, Nat.zero_mul, Nat.one_mul, Nat.reduceMul, List.drop_zero, List.drop_succ_cons, List.take_succ_cons, List.take_zero] at g1
    obtain ⟨a1, k1, w1⟩ := gv3 w H enc base spare held m _ _ g1
    have g2 := hy 2 _ rfl
    rw [List.getElem?_eq_getElem (by omega)] at g2
    simp only [List.getElem_toArray, List.getElem_cons_zero, List.getElem_cons_succ, hc3, hc23, Nat.zero_mul, Nat.one_mul, Nat.reduceMul, List.drop_zero, List.drop_succ_cons, List.take_succ_cons, List.take_zero] at g2
    obtain ⟨a2, k2, w2⟩ := gv3 w H enc base spare held m _ _ g2
    have g3 := hy 3 _ rfl
    rw [List.getElem?_eq_getElem (by omega)] at g3
    simp only [List.getElem_toArray, List.getElem_cons_zero, List.getElem_cons_succ, hc3, hc23, Nat.zero_mul, Nat.one_mul, Nat.reduceMul, List.drop_zero, List.drop_succ_cons, List.take_succ_cons, List.take_zero] at g3
    obtain ⟨a3, k3, w3⟩ := gv3 w H enc base spare held m _ _ g3
    have g4 := hy 4 _ rfl
    rw [List.getElem?_eq_getElem (by omega)] at g4
    simp only [List.getElem_toArray, List.getElem_cons_zero, List.getElem_cons_succ, hc3, hc23, Nat.zero_mul, Nat.one_mul, Nat.reduceMul, List.drop_zero, List.drop_succ_cons, List.take_succ_cons, List.take_zero] at g4
    obtain ⟨a4, k4, w4⟩ := gv23 w H enc base spare held m _ _ g4
    exact ⟨⟨a0, a1, a2, a3, a4⟩, ⟨_, _, rfl, k0, ⟨_, _, rfl, k1, ⟨_, _, rfl, k2, ⟨_, _, rfl, k3, k4⟩⟩⟩⟩, w0, w1, w2, w3, w4⟩
def wf22 (x : List (S25)) : Prop := x.length ≤ maxLen ∧ ∀ y0 ∈ x, wf25 y0
theorem gv22 (w : World) : Gives Try.prog w 22 (fun (x : List (S25)) cs => ((Kd.slice 25 k25)).K w x cs ∧ wf22 x) := by
  exact gives_slice 25 Try.underlying22 (by kernel_rfl) (gv25 w)
theorem fl22 {w : World} {x : List (S25)} {cs : List Value} (h : ((Kd.slice 25 k25)).K w x cs) : ∃ (A : Option Addr) (c : Nat), cs = [.slice A x.length c] ∧ x.length ≤ c ∧ Kd.C k25 w A x.length x := by
  obtain ⟨A_1, c_1, rfl, l_1, r_1⟩ := h
  exact ⟨A_1, c_1, rfl, l_1, r_1⟩
theorem fl25 {w : World} {x : S25} {cs : List Value} (h : (k25).K w x cs) : cs = [.int .i64 x.f0, .int .i64 x.f1, .int .i64 x.f2, .int .i64 x.f3, .int .u32 x.f4] := by
  obtain ⟨_, _, rfl, rfl, ⟨_, _, rfl, rfl, ⟨_, _, rfl, rfl, ⟨_, _, rfl, rfl, rfl⟩⟩⟩⟩ := h
  exact rfl
theorem fl3 {w : World} {x : Int} {cs : List Value} (h : ((Kd.int .i64)).K w x cs) : cs = [.int .i64 x] := by
  have e := h
  exact e
def wf39 (x : List (Int)) : Prop := x.length ≤ maxLen ∧ ∀ y0 ∈ x, wf3 y0
theorem gv39 (w : World) : Gives Try.prog w 39 (fun (x : List (Int)) cs => ((Kd.slice 3 (Kd.int .i64))).K w x cs ∧ wf39 x) := by
  exact gives_slice 3 Try.underlying39 (by kernel_rfl) (gv3 w)
theorem fl39 {w : World} {x : List (Int)} {cs : List Value} (h : ((Kd.slice 3 (Kd.int .i64))).K w x cs) : ∃ (A : Option Addr) (c : Nat), cs = [.slice A x.length c] ∧ x.length ≤ c ∧ Kd.C (Kd.int .i64) w A x.length x := by
  obtain ⟨A_1, c_1, rfl, l_1, r_1⟩ := h
  exact ⟨A_1, c_1, rfl, l_1, r_1⟩
def wf42 (x : List (Int)) : Prop := x.length ≤ maxLen ∧ ∀ y0 ∈ x, wf23 y0
theorem gv42 (w : World) : Gives Try.prog w 42 (fun (x : List (Int)) cs => ((Kd.slice 23 (Kd.int .u32))).K w x cs ∧ wf42 x) := by
  exact gives_slice 23 Try.underlying42 (by kernel_rfl) (gv23 w)
theorem fl42 {w : World} {x : List (Int)} {cs : List Value} (h : ((Kd.slice 23 (Kd.int .u32))).K w x cs) : ∃ (A : Option Addr) (c : Nat), cs = [.slice A x.length c] ∧ x.length ≤ c ∧ Kd.C (Kd.int .u32) w A x.length x := by
  obtain ⟨A_1, c_1, rfl, l_1, r_1⟩ := h
  exact ⟨A_1, c_1, rfl, l_1, r_1⟩
theorem fl23 {w : World} {x : Int} {cs : List Value} (h : ((Kd.int .u32)).K w x cs) : cs = [.int .u32 x] := by
  have e := h
  exact e
def wf51 (x : (Int × Int × Int × Int × List (S25))) : Prop := wf3 x.1 ∧ wf3 x.2.1 ∧ wf23 x.2.2.1 ∧ wf23 x.2.2.2.1 ∧ wf22 x.2.2.2.2
set_option maxRecDepth 100000 in
theorem gv51 (w : World) : Gives Try.prog w 51 (fun (x : (Int × Int × Int × Int × List (S25))) cs => ((Kd.pair (Kd.int .i64) (Kd.pair (Kd.int .i64) (Kd.pair (Kd.int .u32) (Kd.pair (Kd.int .u32) (Kd.slice 25 k25)))))).K w x cs ∧ wf51 x) := by
  intro H enc base spare held fuel cs x h
  obtain ⟨ys, m, _, _, hl, hyl, hy⟩ := Go.DataW.trod_struct Try.underlying51 h
  have hl' : cs.length = 5 := hl.trans (by kernel_rfl)
  have hyl' : ys.length = 5 := hyl
  have hc3 : Try.prog.cellsOf 3 = 1 := by kernel_rfl
  have hc22 : Try.prog.cellsOf 22 = 1 := by kernel_rfl
  have hc23 : Try.prog.cellsOf 23 = 1 := by kernel_rfl
  match cs, hl' with
  | [c0, c1, c2, c3, c4], _ =>
    have g0 := hy 0 _ rfl
    rw [List.getElem?_eq_getElem (by omega)] at g0
    simp only [List.getElem_toArray, List.getElem_cons_zero, List.getElem_cons_succ, hc3, hc22, hc23, Nat.zero_mul, Nat.one_mul, Nat.reduceMul, List.drop_zero, List.drop_succ_cons, List.take_succ_cons, List.take_zero] at g0
    obtain ⟨a0, k0, w0⟩ := gv3 w H enc base spare held m _ _ g0
    have g1 := hy 1 _ rfl
    rw [List.getElem?_eq_getElem (by omega)] at g1
    simp only [List.getElem_toArray, List.getElem_cons_zero, List.getElem_cons_succ, hc3, hc22, hc23, Nat.zero_mul, Nat.one_mul, Nat.reduceMul, List.drop_zero, List.drop_succ_cons, List.take_succ_cons, List.take_zero] at g1
    obtain ⟨a1, k1, w1⟩ := gv3 w H enc base spare held m _ _ g1
    have g2 := hy 2 _ rfl
    rw [List.getElem?_eq_getElem (by omega)] at g2
    simp only [List.getElem_toArray, List.getElem_cons_zero, List.getElem_cons_succ, hc3, hc22, hc23, Nat.zero_mul, Nat.one_mul, Nat.reduceMul, List.drop_zero, List.drop_succ_cons, List.take_succ_cons, List.take_zero] at g2
    obtain ⟨a2, k2, w2⟩ := gv23 w H enc base spare held m _ _ g2
    have g3 := hy 3 _ rfl
    rw [List.getElem?_eq_getElem (by omega)] at g3
    simp only [List.getElem_toArray, List.getElem_cons_zero, List.getElem_cons_succ, hc3, hc22, hc23, Nat.zero_mul, Nat.one_mul, Nat.reduceMul, List.drop_zero, List.drop_succ_cons, List.take_succ_cons, List.take_zero] at g3
    obtain ⟨a3, k3, w3⟩ := gv23 w H enc base spare held m _ _ g3
    have g4 := hy 4 _ rfl
    rw [List.getElem?_eq_getElem (by omega)] at g4
    simp only [List.getElem_toArray, List.getElem_cons_zero, List.getElem_cons_succ, hc3, hc22, hc23, Nat.zero_mul, Nat.one_mul, Nat.reduceMul, List.drop_zero, List.drop_succ_cons, List.take_succ_cons, List.take_zero] at g4
    obtain ⟨a4, k4, w4⟩ := gv22 w H enc base spare held m _ _ g4
    exact ⟨⟨a0, a1, a2, a3, a4⟩, ⟨_, _, rfl, k0, ⟨_, _, rfl, k1, ⟨_, _, rfl, k2, ⟨_, _, rfl, k3, k4⟩⟩⟩⟩, w0, w1, w2, w3, w4⟩
def wf45 (x : List ((Int × Int × Int × Int × List (S25)))) : Prop := x.length ≤ maxLen ∧ ∀ y0 ∈ x, wf51 y0
theorem gv45 (w : World) : Gives Try.prog w 45 (fun (x : List ((Int × Int × Int × Int × List (S25)))) cs => ((Kd.slice 51 (Kd.pair (Kd.int .i64) (Kd.pair (Kd.int .i64) (Kd.pair (Kd.int .u32) (Kd.pair (Kd.int .u32) (Kd.slice 25 k25))))))).K w x cs ∧ wf45 x) := by
  exact gives_slice 51 Try.underlying45 (by kernel_rfl) (gv51 w)
theorem fl45 {w : World} {x : List ((Int × Int × Int × Int × List (S25)))} {cs : List Value} (h : ((Kd.slice 51 (Kd.pair (Kd.int .i64) (Kd.pair (Kd.int .i64) (Kd.pair (Kd.int .u32) (Kd.pair (Kd.int .u32) (Kd.slice 25 k25))))))).K w x cs) : ∃ (A : Option Addr) (c : Nat), cs = [.slice A x.length c] ∧ x.length ≤ c ∧ Kd.C (Kd.pair (Kd.int .i64) (Kd.pair (Kd.int .i64) (Kd.pair (Kd.int .u32) (Kd.pair (Kd.int .u32) (Kd.slice 25 k25))))) w A x.length x := by
  obtain ⟨A_1, c_1, rfl, l_1, r_1⟩ := h
  exact ⟨A_1, c_1, rfl, l_1, r_1⟩
end Go.Proofs.Ytnmfmcjgjjanfaa.OpenT
