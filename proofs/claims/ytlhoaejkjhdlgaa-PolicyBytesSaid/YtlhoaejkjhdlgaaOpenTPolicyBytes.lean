/- The types of these laws' parameters, opened: what the cells of a value that came in are. -/
import Derived.Test.YtlhoaejkjhdlgaaOpen
import Derived.Test.YtlhoaejkjhdlgaaProg
import Derived.KernelRfl
import Derived.Test.YtlhoaejkjhdlgaaPPolicyBytesx0
namespace Go.Proofs.Ytlhoaejkjhdlgaa.OpenTPolicyBytes
open Go Go.RowKit Go.Proofs.Ytlhoaejkjhdlgaa.Open Go.Proofs.YtlhoaejkjhdlgaaW.PrintWords Go.Proofs.Ytlhoaejkjhdlgaa.PPolicyBytes
set_option linter.unusedVariables false
set_option linter.unusedSimpArgs false
variable {w : World}
def wf5 (x : Int) : Prop := (Lit.int .u8 x).wf = true
theorem gv5 (w : World) : Gives Try.prog w 5 (fun (x : Int) cs => ((Kd.int .u8)).K w x cs ∧ wf5 x) := by
  exact gives_imp (gives_int Try.underlying5) (fun a cs h => h)
def wf30 (x : List (Int)) : Prop := x.length ≤ maxLen ∧ ∀ y0 ∈ x, wf5 y0
theorem gv30 (w : World) : Gives Try.prog w 30 (fun (x : List (Int)) cs => ((Kd.slice 5 (Kd.int .u8))).K w x cs ∧ wf30 x) := by
  exact gives_slice 5 Try.underlying30 (by kernel_rfl) (gv5 w)
theorem fl30 {w : World} {x : List (Int)} {cs : List Value} (h : ((Kd.slice 5 (Kd.int .u8))).K w x cs) : ∃ (A : Option Addr) (c : Nat), cs = [.slice A x.length c] ∧ x.length ≤ c ∧ Kd.C (Kd.int .u8) w A x.length x := by
  obtain ⟨A_1, c_1, rfl, l_1, r_1⟩ := h
  exact ⟨A_1, c_1, rfl, l_1, r_1⟩
def wf4 (x : Bool) : Prop := True
theorem gv4 (w : World) : Gives Try.prog w 4 (fun (x : Bool) cs => (Kd.bool).K w x cs ∧ wf4 x) := by
  exact gives_imp (gives_bool Try.underlying4) (fun a cs h => ⟨h, trivial⟩)
def wf3 (x : Int) : Prop := (Lit.int .i64 x).wf = true
theorem gv3 (w : World) : Gives Try.prog w 3 (fun (x : Int) cs => ((Kd.int .i64)).K w x cs ∧ wf3 x) := by
  exact gives_imp (gives_int Try.underlying3) (fun a cs h => h)
def wf33 (x : Int) : Prop := (Lit.int .u32 x).wf = true
theorem gv33 (w : World) : Gives Try.prog w 33 (fun (x : Int) cs => ((Kd.int .u32)).K w x cs ∧ wf33 x) := by
  exact gives_imp (gives_int Try.underlying33) (fun a cs h => h)
def wf35 (x : S35) : Prop := wf3 x.f0 ∧ wf33 x.f1 ∧ wf33 x.f2 ∧ wf5 x.f3
theorem gv35 (w : World) : Gives Try.prog w 35 (fun (x : S35) cs => (k35).K w x cs ∧ wf35 x) := by
  intro H enc base spare held fuel cs x h
  obtain ⟨ys, m, _, _, hl, hyl, hy⟩ := Go.DataW.trod_struct Try.underlying35 h
  have hl' : cs.length = 4 := hl.trans (by kernel_rfl)
  have hyl' : ys.length = 4 := hyl
  have hc3 : Try.prog.cellsOf 3 = 1 := by kernel_rfl
  have hc5 : Try.prog.cellsOf 5 = 1 := by kernel_rfl
  have hc33 : Try.prog.cellsOf 33 = 1 := by kernel_rfl
  match cs, hl' with
  | [c0, c1, c2, c3], _ =>
    have g0 := hy 0 _ rfl
    rw [List.getElem?_eq_getElem (by omega)] at g0
    simp only [List.getElem_toArray, List.getElem_cons_zero, List.getElem_cons_succ, hc3, hc5, hc33, Nat.zero_mul, Nat.one_mul, Nat.reduceMul, List.drop_zero, List.drop_succ_cons, List.take_succ_cons, List.take_zero] at g0
    obtain ⟨a0, k0, w0⟩ := gv3 w H enc base spare held m _ _ g0
    have g1 := hy 1 _ rfl
    rw [List.getElem?_eq_getElem (by omega)] at g1
    simp only [List.getElem_toArray, List.getElem_cons_zero, List.getElem_cons_succ, hc3, hc5, hc33, Nat.zero_mul, Nat.one_mul, Nat.reduceMul, List.drop_zero, List.drop_succ_cons, List.take_succ_cons, List.take_zero] at g1
    obtain ⟨a1, k1, w1⟩ := gv33 w H enc base spare held m _ _ g1
    have g2 := hy 2 _ rfl
    rw [List.getElem?_eq_getElem (by omega)] at g2
    simp only [List.getElem_toArray, List.getElem_cons_zero, List.getElem_cons_succ, hc3, hc5, hc33, Nat.zero_mul, Nat.one_mul, Nat.reduceMul, List.drop_zero, List.drop_succ_cons, List.take_succ_cons, List.take_zero] at g2
    obtain ⟨a2, k2, w2⟩ := gv33 w H enc base spare held m _ _ g2
    have g3 := hy 3 _ rfl
    rw [List.getElem?_eq_getElem (by omega)] at g3
    simp only [List.getElem_toArray, List.getElem_cons_zero, List.getElem_cons_succ, hc3, hc5, hc33, Nat.zero_mul, Nat.one_mul, Nat.reduceMul, List.drop_zero, List.drop_succ_cons, List.take_succ_cons, List.take_zero] at g3
    obtain ⟨a3, k3, w3⟩ := gv5 w H enc base spare held m _ _ g3
    exact ⟨⟨a0, a1, a2, a3⟩, ⟨_, _, rfl, k0, ⟨_, _, rfl, k1, ⟨_, _, rfl, k2, k3⟩⟩⟩, w0, w1, w2, w3⟩
def wf23 (x : List (S35)) : Prop := x.length ≤ maxLen ∧ ∀ y0 ∈ x, wf35 y0
theorem gv23 (w : World) : Gives Try.prog w 23 (fun (x : List (S35)) cs => ((Kd.slice 35 k35)).K w x cs ∧ wf23 x) := by
  exact gives_slice 35 Try.underlying23 (by kernel_rfl) (gv35 w)
def wf37 (x : S37) : Prop := wf3 x.f0 ∧ wf3 x.f1 ∧ wf5 x.f2
theorem gv37 (w : World) : Gives Try.prog w 37 (fun (x : S37) cs => (k37).K w x cs ∧ wf37 x) := by
  intro H enc base spare held fuel cs x h
  obtain ⟨ys, m, _, _, hl, hyl, hy⟩ := Go.DataW.trod_struct Try.underlying37 h
  have hl' : cs.length = 3 := hl.trans (by kernel_rfl)
  have hyl' : ys.length = 3 := hyl
  have hc3 : Try.prog.cellsOf 3 = 1 := by kernel_rfl
  have hc5 : Try.prog.cellsOf 5 = 1 := by kernel_rfl
  match cs, hl' with
  | [c0, c1, c2], _ =>
    have g0 := hy 0 _ rfl
    rw [List.getElem?_eq_getElem (by omega)] at g0
    simp only [List.getElem_toArray, List.getElem_cons_zero, List.getElem_cons_succ, hc3, hc5, Nat.zero_mul, Nat.one_mul, Nat.reduceMul, List.drop_zero, List.drop_succ_cons, List.take_succ_cons, List.take_zero] at g0
    obtain ⟨a0, k0, w0⟩ := gv3 w H enc base spare held m _ _ g0
    have g1 := hy 1 _ rfl
    rw [List.getElem?_eq_getElem (by omega)] at g1
    simp only [List.getElem_toArray, List.getElem_cons_zero, List.getElem_cons_succ, hc3, hc5, Nat.zero_mul, Nat.one_mul, Nat.reduceMul, List.drop_zero, List.drop_succ_cons, List.take_succ_cons, List.take_zero] at g1
    obtain ⟨a1, k1, w1⟩ := gv3 w H enc base spare held m _ _ g1
    have g2 := hy 2 _ rfl
    rw [List.getElem?_eq_getElem (by omega)] at g2
    simp only [List.getElem_toArray, List.getElem_cons_zero, List.getElem_cons_succ, hc3, hc5, Nat.zero_mul, Nat.one_mul, Nat.reduceMul, List.drop_zero, List.drop_succ_cons, List.take_succ_cons, List.take_zero] at g2
    obtain ⟨a2, k2, w2⟩ := gv5 w H enc base spare held m _ _ g2
    exact ⟨⟨a0, a1, a2⟩, ⟨_, _, rfl, k0, ⟨_, _, rfl, k1, k2⟩⟩, w0, w1, w2⟩
def wf24 (x : List (S37)) : Prop := x.length ≤ maxLen ∧ ∀ y0 ∈ x, wf37 y0
theorem gv24 (w : World) : Gives Try.prog w 24 (fun (x : List (S37)) cs => ((Kd.slice 37 k37)).K w x cs ∧ wf24 x) := by
  exact gives_slice 37 Try.underlying24 (by kernel_rfl) (gv37 w)
def wf26 (x : (Bool × List (S35) × List (S37))) : Prop := wf4 x.1 ∧ wf23 x.2.1 ∧ wf24 x.2.2
theorem gv26 (w : World) : Gives Try.prog w 26 (fun (x : (Bool × List (S35) × List (S37))) cs => ((Kd.pair Kd.bool (Kd.pair (Kd.slice 35 k35) (Kd.slice 37 k37)))).K w x cs ∧ wf26 x) := by
  intro H enc base spare held fuel cs x h
  obtain ⟨ys, m, _, _, hl, hyl, hy⟩ := Go.DataW.trod_struct Try.underlying26 h
  have hl' : cs.length = 3 := hl.trans (by kernel_rfl)
  have hyl' : ys.length = 3 := hyl
  have hc4 : Try.prog.cellsOf 4 = 1 := by kernel_rfl
  have hc23 : Try.prog.cellsOf 23 = 1 := by kernel_rfl
  have hc24 : Try.prog.cellsOf 24 = 1 := by kernel_rfl
  match cs, hl' with
  | [c0, c1, c2], _ =>
    have g0 := hy 0 _ rfl
    rw [List.getElem?_eq_getElem (by omega)] at g0
    simp only [List.getElem_toArray, List.getElem_cons_zero, List.getElem_cons_succ, hc4, hc23, hc24, Nat.zero_mul, Nat.one_mul, Nat.reduceMul, List.drop_zero, List.drop_succ_cons, List.take_succ_cons, List.take_zero] at g0
    obtain ⟨a0, k0, w0⟩ := gv4 w H enc base spare held m _ _ g0
    have g1 := hy 1 _ rfl
    rw [List.getElem?_eq_getElem (by omega)] at g1
    simp only [List.getElem_toArray, List.getElem_cons_zero, List.getElem_cons_succ, hc4, hc23, hc24, Nat.zero_mul, Nat.one_mul, Nat.reduceMul, List.drop_zero, List.drop_succ_cons, List.take_succ_cons, List.take_zero] at g1
    obtain ⟨a1, k1, w1⟩ := gv23 w H enc base spare held m _ _ g1
    have g2 := hy 2 _ rfl
    rw [List.getElem?_eq_getElem (by omega)] at g2
    simp only [List.getElem_toArray, List.getElem_cons_zero, List.getElem_cons_succ, hc4, hc23, hc24, Nat.zero_mul, Nat.one_mul, Nat.reduceMul, List.drop_zero, List.drop_succ_cons, List.take_succ_cons, List.take_zero] at g2
    obtain ⟨a2, k2, w2⟩ := gv24 w H enc base spare held m _ _ g2
    exact ⟨⟨a0, a1, a2⟩, ⟨_, _, rfl, k0, ⟨_, _, rfl, k1, k2⟩⟩, w0, w1, w2⟩
theorem fl26 {w : World} {x : (Bool × List (S35) × List (S37))} {cs : List Value} (h : ((Kd.pair Kd.bool (Kd.pair (Kd.slice 35 k35) (Kd.slice 37 k37)))).K w x cs) : ∃ (A_1 : Option Addr) (c_1 : Nat) (A_2 : Option Addr) (c_2 : Nat), cs = [.bool x.1, .slice A_1 x.2.1.length c_1, .slice A_2 x.2.2.length c_2] ∧ x.2.1.length ≤ c_1 ∧ Kd.C k35 w A_1 x.2.1.length x.2.1 ∧ x.2.2.length ≤ c_2 ∧ Kd.C k37 w A_2 x.2.2.length x.2.2 := by
  obtain ⟨_, _, rfl, rfl, ⟨_, _, rfl, ⟨A_1, c_1, rfl, l_1, r_1⟩, ⟨A_2, c_2, rfl, l_2, r_2⟩⟩⟩ := h
  exact ⟨A_1, c_1, A_2, c_2, rfl, l_1, r_1, l_2, r_2⟩
end Go.Proofs.Ytlhoaejkjhdlgaa.OpenTPolicyBytes
