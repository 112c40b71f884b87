/- slices.Clone over the nodes; the counters. -/
import Derived.Test.YtnmfmcjgjjanfaaRem
import Derived.Test.YtnmfmcjgjjanfaaLits
import Derived.Lib.LazyBuf
namespace Go.Proofs.Ytnmfmcjgjjanfaa.Cache
open Go Go.RowKit Go.Proofs.YtnmfmcjgjjanfaaW.PrintWords Go.Proofs.YtnmfmcjgjjanfaaW.PrintLast Go.Proofs.YtnmfmcjgjjanfaaW.PrintMore Go.Proofs.Ytnmfmcjgjjanfaa.Pr Go.Proofs.Ytnmfmcjgjjanfaa.Lits
set_option linter.unusedVariables false
set_option linter.unusedSimpArgs false
theorem info25 : (Try.prog.info? 25).map (fun i => (i.zero, i.size, i.bytes)) = some (some (.agg #[(.int .i64 0), (.int .i64 0), (.int .i64 0), (.int .i64 0), (.int .u32 0)]), 5, 40) := by kernel_rfl
/-- A copy of a list. -/
def CloneE (w : World) (xs : List S25) (e : Ending) (w' : World) : Prop := ∃ v, e = .returned v ∧ Kd.R k25 25 w' w.heap.size (fun _ => True) v xs ∧ Below w.heap.size w w'
set_option maxRecDepth 100000 in
theorem clone_nil (c : Nat) (w : World) : Calls Try.prog 25 #[.slice none 0 c] w (CloneE w []) := by
  have hu22 := @run_eql_slice_nil Try.prog
  have hs22 := Try.underlying22
  go_enter Try.func25, Try.ntmps25
  go_wp2
  go_ret
  exact ⟨_, rfl, Kd.R_nil _ _ _ _ _, Below.refl _ _⟩
theorem lit_any (w : World) : Kd.R k25 25 (w.alloc (.cells #[] 25)) w.heap.size (fun _ => True) (.slice (some ⟨w.heap.size, 0, none⟩) 0 0) [] :=
  ⟨fun _ _ => trivial, [], by simpa using World.ownsRow_lit (base := w.heap.size) (e := 25) (size := k25.sz) w #[] 0 (Nat.le_refl _) (by decide) (by simp), Reps.none _ _⟩
set_option maxRecDepth 100000 in
theorem clone_some (ad : Addr) (c : Nat) (xs : List S25) (w : World) (hr : Kd.C k25 w (some ad) xs.length xs) (hn : xs.length ≤ 1000000) : Calls Try.prog 25 #[.slice (some ad) xs.length c] w (CloneE w xs) := by
  have HR := Lib.hid hr
  have HN := Lib.hid hn
  clear hr
  have hu22 := @run_eql_slice_nil Try.prog
  have hs22 := Try.underlying22
  go_enter Try.func25, Try.ntmps25
  go_wp2_with ((with_reducible refine gate_builtin (b := .append) (xs := #[.tmp 5, .tmp 6]) rfl ?_); at_builtin; refine Kd.R_append_rows k25 (Rr := k25.K w) (w0 := w) w.heap.size rfl (.tmp 5) (.tmp 6) 22 25 (.agg #[(.int .i64 0), (.int .i64 0), (.int .i64 0), (.int .i64 0), (.int .u32 0)]) 40 rfl Try.underlying22 info25 rfl (by decide) (by omega) (.slice (some ⟨w.heap.size, 0, none⟩) 0 0) [] xs (some ad) _ c (fun _ => True) (fun _ => False) rfl rfl ?aO ?aR ?aK (fun _ h => h.elim) (fun _ _ => trivial) ?aB ?aS ?aL ?_; (case aO => exact lit_any w); (case aR => exact Kd.C_below HR.out (Below.alloc (Below.refl _ _) (Nat.le_refl _) _)); (case aK => intro y cs h; rw [k25_open h]; exact k25_mkM _ _ _ _); (case aB => exact (Below.alloc (Below.refl _ _) (Nat.le_refl _) _)); (case aS => simp); (case aL => simp; omega); intro v1 w1 ho hb hg hat; rw [List.nil_append] at ho; obtain ⟨A1, c1, rfl, _⟩ := Kd.R_reads ho; clear hg hat)
  go_ret
  exact ⟨_, rfl, ho, hb⟩
theorem clone_any (A : Option Addr) (c : Nat) (xs : List S25) (w : World) (hr : Kd.C k25 w A xs.length xs) (hc : xs.length ≤ c) (hn : xs.length ≤ 1000000) : Calls Try.prog 25 #[.slice A xs.length c] w (CloneE w xs) := by
  cases A with
  | none =>
    have hx : xs = [] := by
      cases xs with
      | nil => rfl
      | cons x r => obtain ⟨_, e, _⟩ := hr.2.2 (Nat.succ_pos _); cases e
    subst hx
    exact clone_nil c w
  | some ad => exact clone_some ad c xs w hr hn
set_option maxRecDepth 100000 in
theorem add_one (a : Addr) (x : Int) (w : World) (hc : w.cell? a = some (.int .i64 x)) (hz : w.frozen? a = false) (h0 : 0 ≤ x) (h1 : x ≤ 1000000) :
    Calls Try.prog 27 #[.pointer (some a), .int .i64 1] w fun e w' => e = .returned (.int .i64 (x + 1)) ∧ w' = w.setCell a (.int .i64 (x + 1)) := by
  have hadd := run_call_add (P := Try.prog) Try.func37 (by kernel_rfl) (by kernel_rfl) (by kernel_rfl) .i64 (by kernel_rfl) (y := 1) (s := x + 1) hc hz (by
    have hw : IntKind.i64.wrap (x + 1) = x + 1 := by rw [IntKind.wrap_i64]; omega
    simp [go_sem, hw])
  go_enter Try.func27, Try.ntmps27
  go_wp2
  go_ret
  exact ⟨rfl, rfl⟩
set_option maxRecDepth 100000 in
theorem load_i64 (a : Addr) (x : Int) (w : World) (hc : w.cell? a = some (.int .i64 x)) : Calls Try.prog 28 #[.pointer (some a)] w fun e w' => e = .returned (.int .i64 x) ∧ w = w' := by
  have hl := run_call_load (P := Try.prog) Try.func38 (by kernel_rfl) (by kernel_rfl) (by kernel_rfl) .i64 (by kernel_rfl) hc
  go_enter Try.func28, Try.ntmps28
  go_wp2
  go_ret
  exact ⟨rfl, rfl⟩
end Go.Proofs.Ytnmfmcjgjjanfaa.Cache
