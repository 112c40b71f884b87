/- The types of these laws' parameters, opened: what the cells of a value that came in are. -/
import Derived.Test.YtbhoijkamnaopaaOpen
import Derived.Test.YtbhoijkamnaopaaProg
import Derived.KernelRfl
namespace Go.Proofs.Ytbhoijkamnaopaa.OpenT
open Go Go.RowKit Go.Proofs.Ytbhoijkamnaopaa.Open Go.Proofs.YtbhoijkamnaopaaW.PrintWords
set_option linter.unusedVariables false
set_option linter.unusedSimpArgs false
variable {w : World}
def wf5 (x : Int) : Prop := (Lit.int .u8 x).wf = true
theorem gv5 (w : World) : Gives Try.prog w 5 (fun (x : Int) cs => ((Kd.int .u8)).K w x cs ∧ wf5 x) := by
  exact gives_imp (gives_int Try.underlying5) (fun a cs h => h)
def wf24 (x : (Int × Int × Int × Int)) : Prop := wf5 x.1 ∧ wf5 x.2.1 ∧ wf5 x.2.2.1 ∧ wf5 x.2.2.2
theorem gv24 (w : World) : Gives Try.prog w 24 (fun (x : (Int × Int × Int × Int)) cs => ((Kd.pair (Kd.int .u8) (Kd.pair (Kd.int .u8) (Kd.pair (Kd.int .u8) (Kd.int .u8))))).K w x cs ∧ wf24 x) := by
  intro H enc base spare held fuel cs x h
  obtain ⟨ys, m, _, _, hl, hyl, hy⟩ := Go.DataW.trod_array Try.underlying24 h
  have hl' : cs.length = 4 := hl.trans (by kernel_rfl)
  have hyl' : ys.length = 4 := hyl
  have hc5 : Try.prog.cellsOf 5 = 1 := by kernel_rfl
  match cs, hl' with
  | [c0, c1, c2, c3], _ =>
    have g0 := hy 0 (by omega)
    rw [List.getElem?_eq_getElem (by omega)] at g0
    simp only [List.getElem_toArray, List.getElem_cons_zero, List.getElem_cons_succ, hc5, Nat.zero_mul, Nat.one_mul, Nat.reduceMul, List.drop_zero, List.drop_succ_cons, List.take_succ_cons, List.take_zero] at g0
    obtain ⟨a0, k0, w0⟩ := gv5 w H enc base spare held m _ _ g0
    have g1 := hy 1 (by omega)
    rw [List.getElem?_eq_getElem (by omega)] at g1
    simp only [List.getElem_toArray, List.getElem_cons_zero, List.getElem_cons_succ, hc5, Nat.zero_mul, Nat.one_mul, Nat.reduceMul, List.drop_zero, List.drop_succ_cons, List.take_succ_cons, List.take_zero] at g1
    obtain ⟨a1, k1, w1⟩ := gv5 w H enc base spare held m _ _ g1
    have g2 := hy 2 (by omega)
    rw [List.getElem?_eq_getElem (by omega)] at g2
    simp only [List.getElem_toArray, List.getElem_cons_zero, List.getElem_cons_succ, hc5, Nat.zero_mul, Nat.one_mul, Nat.reduceMul, List.drop_zero, List.drop_succ_cons, List.take_succ_cons, List.take_zero] at g2
    obtain ⟨a2, k2, w2⟩ := gv5 w H enc base spare held m _ _ g2
    have g3 := hy 3 (by omega)
    rw [List.getElem?_eq_getElem (by omega)] at g3
    simp only [List.getElem_toArray, List.getElem_cons_zero, List.getElem_cons_succ, hc5, Nat.zero_mul, Nat.one_mul, Nat.reduceMul, List.drop_zero, List.drop_succ_cons, List.take_succ_cons, List.take_zero] at g3
    obtain ⟨a3, k3, w3⟩ := gv5 w H enc base spare held m _ _ g3
    exact ⟨⟨a0, a1, a2, a3⟩, ⟨_, _, rfl, k0, ⟨_, _, rfl, k1, ⟨_, _, rfl, k2, k3⟩⟩⟩, w0, w1, w2, w3⟩
theorem fl24 {w : World} {x : (Int × Int × Int × Int)} {cs : List Value} (h : ((Kd.pair (Kd.int .u8) (Kd.pair (Kd.int .u8) (Kd.pair (Kd.int .u8) (Kd.int .u8))))).K w x cs) : cs = [.int .u8 x.1, .int .u8 x.2.1, .int .u8 x.2.2.1, .int .u8 x.2.2.2] := by
  obtain ⟨_, _, rfl, rfl, ⟨_, _, rfl, rfl, ⟨_, _, rfl, rfl, rfl⟩⟩⟩ := h
  exact rfl
def wf23 (x : (Int × Int × Int × Int)) : Prop := wf5 x.1 ∧ wf5 x.2.1 ∧ wf5 x.2.2.1 ∧ wf5 x.2.2.2
theorem gv23 (w : World) : Gives Try.prog w 23 (fun (x : (Int × Int × Int × Int)) cs => ((Kd.pair (Kd.int .u8) (Kd.pair (Kd.int .u8) (Kd.pair (Kd.int .u8) (Kd.int .u8))))).K w x cs ∧ wf23 x) := by
  intro H enc base spare held fuel cs x h
  obtain ⟨ys, m, _, _, hl, hyl, hy⟩ := Go.DataW.trod_array Try.underlying23 h
  have hl' : cs.length = 4 := hl.trans (by kernel_rfl)
  have hyl' : ys.length = 4 := hyl
  have hc5 : Try.prog.cellsOf 5 = 1 := by kernel_rfl
  match cs, hl' with
  | [c0, c1, c2, c3], _ =>
    have g0 := hy 0 (by omega)
    rw [List.getElem?_eq_getElem (by omega)] at g0
    simp only [List.getElem_toArray, List.getElem_cons_zero, List.getElem_cons_succ, hc5, Nat.zero_mul, Nat.one_mul, Nat.reduceMul, List.drop_zero, List.drop_succ_cons, List.take_succ_cons, List.take_zero] at g0
    obtain ⟨a0, k0, w0⟩ := gv5 w H enc base spare held m _ _ g0
    have g1 := hy 1 (by omega)
    rw [List.getElem?_eq_getElem (by omega)] at g1
    simp only [List.getElem_toArray, List.getElem_cons_zero, List.getElem_cons_succ, hc5, Nat.zero_mul, Nat.one_mul, Nat.reduceMul, List.drop_zero, List.drop_succ_cons, List.take_succ_cons, List.take_zero] at g1
    obtain ⟨a1, k1, w1⟩ := gv5 w H enc base spare held m _ _ g1
    have g2 := hy 2 (by omega)
    rw [List.getElem?_eq_getElem (by omega)] at g2
    simp only [List.getElem_toArray, List.getElem_cons_zero, List.getElem_cons_succ, hc5, Nat.zero_mul, Nat.one_mul, Nat.reduceMul, List.drop_zero, List.drop_succ_cons, List.take_succ_cons, List.take_zero] at g2
    obtain ⟨a2, k2, w2⟩ := gv5 w H enc base spare held m _ _ g2
    have g3 := hy 3 (by omega)
    rw [List.getElem?_eq_getElem (by omega)] at g3
    simp only [List.getElem_toArray, List.getElem_cons_zero, List.getElem_cons_succ, hc5, Nat.zero_mul, Nat.one_mul, Nat.reduceMul, List.drop_zero, List.drop_succ_cons, List.take_succ_cons, List.take_zero] at g3
    obtain ⟨a3, k3, w3⟩ := gv5 w H enc base spare held m _ _ g3
    exact ⟨⟨a0, a1, a2, a3⟩, ⟨_, _, rfl, k0, ⟨_, _, rfl, k1, ⟨_, _, rfl, k2, k3⟩⟩⟩, w0, w1, w2, w3⟩
theorem fl23 {w : World} {x : (Int × Int × Int × Int)} {cs : List Value} (h : ((Kd.pair (Kd.int .u8) (Kd.pair (Kd.int .u8) (Kd.pair (Kd.int .u8) (Kd.int .u8))))).K w x cs) : cs = [.int .u8 x.1, .int .u8 x.2.1, .int .u8 x.2.2.1, .int .u8 x.2.2.2] := by
  obtain ⟨_, _, rfl, rfl, ⟨_, _, rfl, rfl, ⟨_, _, rfl, rfl, rfl⟩⟩⟩ := h
  exact rfl
def wf3 (x : Int) : Prop := (Lit.int .i64 x).wf = true
theorem gv3 (w : World) : Gives Try.prog w 3 (fun (x : Int) cs => ((Kd.int .i64)).K w x cs ∧ wf3 x) := by
  exact gives_imp (gives_int Try.underlying3) (fun a cs h => h)
theorem fl3 {w : World} {x : Int} {cs : List Value} (h : ((Kd.int .i64)).K w x cs) : cs = [.int .i64 x] := by
  have e := h
  exact e
theorem fl5 {w : World} {x : Int} {cs : List Value} (h : ((Kd.int .u8)).K w x cs) : cs = [.int .u8 x] := by
  have e := h
  exact e
def wf4 (x : Bool) : Prop := True
theorem gv4 (w : World) : Gives Try.prog w 4 (fun (x : Bool) cs => (Kd.bool).K w x cs ∧ wf4 x) := by
  exact gives_imp (gives_bool Try.underlying4) (fun a cs h => ⟨h, trivial⟩)
theorem fl4 {w : World} {x : Bool} {cs : List Value} (h : (Kd.bool).K w x cs) : cs = [.bool x] := by
  have e := h
  exact e
def wf22 (x : Int) : Prop := (Lit.int .u32 x).wf = true
theorem gv22 (w : World) : Gives Try.prog w 22 (fun (x : Int) cs => ((Kd.int .u32)).K w x cs ∧ wf22 x) := by
  exact gives_imp (gives_int Try.underlying22) (fun a cs h => h)
theorem fl22 {w : World} {x : Int} {cs : List Value} (h : ((Kd.int .u32)).K w x cs) : cs = [.int .u32 x] := by
  have e := h
  exact e
end Go.Proofs.Ytbhoijkamnaopaa.OpenT
