/- The types of these laws' parameters, opened: what the cells of a value that came in are. -/
import Derived.Test.YtcjaepmecihmlaaOpen
import Derived.Test.YtcjaepmecihmlaaProg
import Derived.KernelRfl
import Derived.Test.YtcjaepmecihmlaaI0
namespace Go.Proofs.Ytcjaepmecihmlaa.OpenTImageBytes
open Go Go.RowKit Go.Proofs.Ytcjaepmecihmlaa.Open Go.Proofs.YtcjaepmecihmlaaW.PrintWords Go.Proofs.Ytcjaepmecihmlaa.Img
set_option linter.unusedVariables false
set_option linter.unusedSimpArgs false
variable {w : World}
def wf23 (x : Int) : Prop := (Lit.int .u32 x).wf = true
theorem gv23 (w : World) : Gives Try.prog w 23 (fun (x : Int) cs => ((Kd.int .u32)).K w x cs ∧ wf23 x) := by
  exact zf1 (zf0 Try.underlying23) (fun a cs h => h)
def wf3 (x : Int) : Prop := (Lit.int .i64 x).wf = true
theorem gv3 (w : World) : Gives Try.prog w 3 (fun (x : Int) cs => ((Kd.int .i64)).K w x cs ∧ wf3 x) := by
  exact zf1 (zf0 Try.underlying3) (fun a cs h => h)
def wf5 (x : Int) : Prop := (Lit.int .u8 x).wf = true
theorem gv5 (w : World) : Gives Try.prog w 5 (fun (x : Int) cs => ((Kd.int .u8)).K w x cs ∧ wf5 x) := by
  exact zf1 (zf0 Try.underlying5) (fun a cs h => h)
def wf28 (x : List (Int)) : Prop := x.length ≤ maxLen ∧ ∀ y0 ∈ x, wf5 y0
theorem gv28 (w : World) : Gives Try.prog w 28 (fun (x : List (Int)) cs => ((Kd.slice 5 (Kd.int .u8))).K w x cs ∧ wf28 x) := by
  exact zfz 5 Try.underlying28 (by kernel_rfl) (gv5 w)
def wf30 (x : S30) : Prop := wf23 x.f0 ∧ wf23 x.f1 ∧ wf3 x.f2 ∧ wf28 x.f3
theorem gv30 (w : World) : Gives Try.prog w 30 (fun (x : S30) cs => (k30).K w x cs ∧ wf30 x) := by
  intro H enc base spare held fuel cs x h
  obtain ⟨ys, m, _, _, hl, hyl, hy⟩ := Go.DataW.trod_struct Try.underlying30 h
  have hl' : cs.length = 4 := hl.trans (by kernel_rfl)
  have hyl' : ys.length = 4 := hyl
  have hc3 : Try.prog.cellsOf 3 = 1 := by kernel_rfl
  have hc23 : Try.prog.cellsOf 23 = 1 := by kernel_rfl
  have hc28 : Try.prog.cellsOf 28 = 1 := by kernel_rfl
  match cs, hl' with
  | [c0, c1, c2, c3], _ =>
    have g0 := hy 0 _ rfl
    rw [List.getElem?_eq_getElem (by omega)] at g0
    simp only [List.getElem_toArray, List.getElem_cons_zero, List.getElem_cons_succ, hc3, hc23, hc28, Nat.zero_mul, Nat.one_mul, Nat.reduceMul, List.drop_zero, List.drop_succ_cons, List.take_succ_cons, List.take_zero] at g0
    obtain ⟨a0, k0, w0⟩ := gv23 w H enc base spare held m _ _ g0
    have g1 := hy 1 _ rfl
    rw [List.getElem?_eq_getElem (by omega)] at g1
    simp only [List.getElem_toArray, List.getElem_cons_zero, List.getElem_cons_succ, hc3, hc23, hc28, Nat.zero_mul, Nat.one_mul, Nat.reduceMul, List.drop_zero, List.drop_succ_cons, List.take_succ_cons, List.take_zero] at g1
    obtain ⟨a1, k1, w1⟩ := gv23 w H enc base spare held m _ _ g1
    have g2 := hy 2 _ rfl
    rw [List.getElem?_eq_getElem (by omega)] at g2
    simp only [List.getElem_toArray, List.getElem_cons_zero, List.getElem_cons_succ, hc3, hc23, hc28, Nat.zero_mul, Nat.one_mul, Nat.reduceMul, List.drop_zero, List.drop_succ_cons, List.take_succ_cons, List.take_zero] at g2
    obtain ⟨a2, k2, w2⟩ := gv3 w H enc base spare held m _ _ g2
    have g3 := hy 3 _ rfl
    rw [List.getElem?_eq_getElem (by omega)] at g3
    simp only [List.getElem_toArray, List.getElem_cons_zero, List.getElem_cons_succ, hc3, hc23, hc28, Nat.zero_mul, Nat.one_mul, Nat.reduceMul, List.drop_zero, List.drop_succ_cons, List.take_succ_cons, List.take_zero] at g3
    obtain ⟨a3, k3, w3⟩ := gv28 w H enc base spare held m _ _ g3
    exact ⟨⟨a0, a1, a2, a3⟩, ⟨_, _, rfl, k0, ⟨_, _, rfl, k1, ⟨_, _, rfl, k2, k3⟩⟩⟩, w0, w1, w2, w3⟩
def wf24 (x : List (S30)) : Prop := x.length ≤ maxLen ∧ ∀ y0 ∈ x, wf30 y0
theorem gv24 (w : World) : Gives Try.prog w 24 (fun (x : List (S30)) cs => ((Kd.slice 30 k30)).K w x cs ∧ wf24 x) := by
  exact zfz 30 Try.underlying24 (by kernel_rfl) (gv30 w)
def wf26 (x : (Int × List (S30))) : Prop := wf23 x.1 ∧ wf24 x.2
theorem gv26 (w : World) : Gives Try.prog w 26 (fun (x : (Int × List (S30))) cs => ((Kd.pair (Kd.int .u32) (Kd.slice 30 k30))).K w x cs ∧ wf26 x) := by
  intro H enc base spare held fuel cs x h
  obtain ⟨ys, m, _, _, hl, hyl, hy⟩ := Go.DataW.trod_struct Try.underlying26 h
  have hl' : cs.length = 2 := hl.trans (by kernel_rfl)
  have hyl' : ys.length = 2 := hyl
  have hc23 : Try.prog.cellsOf 23 = 1 := by kernel_rfl
  have hc24 : Try.prog.cellsOf 24 = 1 := by kernel_rfl
  match cs, hl' with
  | [c0, c1], _ =>
    have g0 := hy 0 _ rfl
    rw [List.getElem?_eq_getElem (by omega)] at g0
    simp only [List.getElem_toArray, List.getElem_cons_zero, List.getElem_cons_succ, hc23, hc24, Nat.zero_mul, Nat.one_mul, Nat.reduceMul, List.drop_zero, List.drop_succ_cons, List.take_succ_cons, List.take_zero] at g0
    obtain ⟨a0, k0, w0⟩ := gv23 w H enc base spare held m _ _ g0
    have g1 := hy 1 _ rfl
    rw [List.getElem?_eq_getElem (by omega)] at g1
    simp only [List.getElem_toArray, List.getElem_cons_zero, List.getElem_cons_succ, hc23, hc24, Nat.zero_mul, Nat.one_mul, Nat.reduceMul, List.drop_zero, List.drop_succ_cons, List.take_succ_cons, List.take_zero] at g1
    obtain ⟨a1, k1, w1⟩ := gv24 w H enc base spare held m _ _ g1
    exact ⟨⟨a0, a1⟩, ⟨_, _, rfl, k0, k1⟩, w0, w1⟩
theorem fl26 {w : World} {x : (Int × List (S30))} {cs : List Value} (h : ((Kd.pair (Kd.int .u32) (Kd.slice 30 k30))).K w x cs) : ∃ (A_1 : Option Addr) (c_1 : Nat), cs = [.int .u32 x.1, .slice A_1 x.2.length c_1] ∧ x.2.length ≤ c_1 ∧ Kd.C k30 w A_1 x.2.length x.2 := by
  obtain ⟨_, _, rfl, rfl, ⟨A_1, c_1, rfl, l_1, r_1⟩⟩ := h
  exact ⟨A_1, c_1, rfl, l_1, r_1⟩
theorem fl28 {w : World} {x : List (Int)} {cs : List Value} (h : ((Kd.slice 5 (Kd.int .u8))).K w x cs) : ∃ (A : Option Addr) (c : Nat), cs = [.slice A x.length c] ∧ x.length ≤ c ∧ Kd.C (Kd.int .u8) w A x.length x := by
  obtain ⟨A_1, c_1, rfl, l_1, r_1⟩ := h
  exact ⟨A_1, c_1, rfl, l_1, r_1⟩
end Go.Proofs.Ytcjaepmecihmlaa.OpenTImageBytes
