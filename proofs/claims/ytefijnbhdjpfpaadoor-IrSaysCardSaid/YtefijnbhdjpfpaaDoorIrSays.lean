/- IrSays answers true for every input: the walk is the printed one, over what Good, Reads, Writes, Text come to. -/
import Derived.Test.YtefijnbhdjpfpaaDoorLIrSays
import Derived.Test.YtefijnbhdjpfpaaDoorFoldPlain
import Derived.Test.YtefijnbhdjpfpaaDoorOpenT
import Derived.Test.YtefijnbhdjpfpaaDoorDoor
namespace Go.Proofs.YtefijnbhdjpfpaaDoor.Ir
open Go Go.RowKit Go.Proofs.YtefijnbhdjpfpaaDoorW.PrintWords Go.Proofs.YtefijnbhdjpfpaaDoorW.PrintLast Go.Proofs.YtefijnbhdjpfpaaDoorW.PrintMore
set_option linter.unusedVariables false
set_option linter.unusedSimpArgs false
def back (n : S25) : S36 := ⟨n.f0, n.f1, n.f2, n.f3, n.f4⟩
theorem conv_back (n : S25) : conv (back n) = n := rfl
theorem nodes_loop (l : List S25) (hl : l.length ≤ 60) : ∀ (k i : Nat), i ≤ l.length → l.length - i < k → tincturelaw19_nodes.l0 k l ((l.take i).map back) (i : Int) = some (l.map back) := by
  intro k
  induction k with
  | zero => intro i hi hk; omega
  | succ k ih =>
    intro i hi hk
    rw [tincturelaw19_nodes.l0]
    by_cases hlt : i < l.length
    · have hw : wrap64 ((i : Int) + 1) = ((i + 1 : Nat) : Int) := by unfold wrap64; omega
      have hlen : ((l.take i).map back).length < 3518437208883 := by simp; omega
      rw [if_pos (by omega), if_pos (by omega), if_pos hlen, hw]
      have e : (l.take i).map back ++ [(⟨(rd_T25 l (i : Int)).f0, (rd_T25 l (i : Int)).f1, (rd_T25 l (i : Int)).f2, (rd_T25 l (i : Int)).f3, (rd_T25 l (i : Int)).f4⟩ : S36)] = (l.take (i + 1)).map back := by
        rw [List.take_succ_eq_append_getElem hlt, List.map_append, rd_get l i hlt]
        rfl
      rw [e]
      exact ih (i + 1) (by omega) (by omega)
    · have : i = l.length := by omega
      subst this
      rw [if_neg (by omega), List.take_length]
theorem nodes_at (l : List S25) (hl : l.length ≤ 60) (k : Nat) (hk : 61 ≤ k) : tincturelaw19_nodes.f k l = some (l.map back) := by
  unfold tincturelaw19_nodes.f
  have := nodes_loop l hl k 0 (Nat.zero_le _) (by omega)
  simpa using this
theorem rd36_back (l : List S25) (i : Nat) (h : i < l.length) : rd_T36 (l.map back) (i : Int) = back l[i] := by
  unfold rd_T36
  rw [Int.toNat_natCast, List.getD_eq_getElem?_getD, List.getElem?_map, List.getElem?_eq_getElem h]
  rfl
theorem inner (l : List S25) (ks : List S36) (i : Nat) (hi : i ≤ 60) (xs : List Int) (hx : xs.length ≤ 3) (M : Nat) (H : ∀ k, M ≤ k → tincturelaw19_IrSays.l0 k l ks ((i + 1 : Nat) : Int) = some true) :
    ∀ (d q : Nat), q ≤ xs.length → xs.length - q = d → ∀ k, M + d + 1 ≤ k → tincturelaw19_IrSays.l1 k l ks (i : Int) xs xs (q : Int) = some true := by
  intro d
  induction d with
  | zero =>
    intro q hq hd k hk
    obtain ⟨k, rfl⟩ : ∃ j, k = j + 1 := ⟨k - 1, by omega⟩
    have hw : wrap64 ((i : Int) + 1) = ((i + 1 : Nat) : Int) := by unfold wrap64; omega
    rw [tincturelaw19_IrSays.l1, if_neg (by omega), hw]
    exact H k (by omega)
  | succ d ih =>
    intro q hq hd k hk
    obtain ⟨k, rfl⟩ : ∃ j, k = j + 1 := ⟨k - 1, by omega⟩
    have hw : wrap64 ((q : Int) + 1) = ((q + 1 : Nat) : Int) := by unfold wrap64; omega
    rw [tincturelaw19_IrSays.l1, if_pos (by omega), if_pos (by omega), if_pos (by omega), if_pos rfl, hw]
    exact ih (q + 1) (by omega) (by omega) k (by omega)
def okAll (l : List S25) : Prop := ∀ n ∈ l, nodeOk n.f0 n.f1 n.f2 n.f3 n.f4
theorem outer (l : List S25) (hl : l.length ≤ 60) (hok : okAll l) : ∀ (d i : Nat), i ≤ l.length → l.length - i = d → ∀ k, 6 * d + 20 ≤ k → tincturelaw19_IrSays.l0 k l (l.map back) (i : Int) = some true := by
  intro d
  induction d with
  | zero =>
    intro i hi hd k hk
    obtain ⟨k, rfl⟩ : ∃ j, k = j + 1 := ⟨k - 1, by omega⟩
    rw [tincturelaw19_IrSays.l0, if_neg (by omega)]
  | succ d ih =>
    intro i hi hd k hk
    obtain ⟨k, rfl⟩ : ∃ j, k = j + 9 := ⟨k - 9, by omega⟩
    have hlt : i < l.length := by omega
    have hlen : (i : Int) < ((l.map back).length : Int) := by simp; omega
    have hn := hok l[i] (List.getElem_mem hlt)
    rw [show k + 9 = (k + 8) + 1 by omega, tincturelaw19_IrSays.l0, if_pos (by omega), if_pos (by omega), rd_get l i hlt, rd36_back l i hlt, show k + 8 = (k + 4) + 4 by omega, reads_at]
    simp only [Option.bind_some]
    rw [if_pos hlen, show k + 4 + 4 = (k + 1) + 7 by omega, rreads_at, conv_back, writes_at, rwrites_at, conv_back]
    simp only [Option.bind_some]
    rw [if_pos trivial, if_pos trivial]
    have hb : ((writesP l[i]).2 != (writesP l[i]).2) = false := by simp
    rw [hb, if_neg (by decide)]
    unfold ir_TextT.f tinctureref18_Text.f
    rw [if_pos hn]
    have hn' : nodeOk (back l[i]).f0 (back l[i]).f1 (back l[i]).f2 (back l[i]).f3 (back l[i]).f4 := hn
    rw [if_pos hn']
    simp only [Option.bind_some]
    have ht : ((textB l[i].f0 l[i].f1 l[i].f2 l[i].f3 l[i].f4).toList != (textB (back l[i]).f0 (back l[i]).f1 (back l[i]).f2 (back l[i]).f3 (back l[i]).f4).toList) = false := by
      show ((textB l[i].f0 l[i].f1 l[i].f2 l[i].f3 l[i].f4).toList != (textB l[i].f0 l[i].f1 l[i].f2 l[i].f3 l[i].f4).toList) = false
      simp
    rw [ht, show k + 1 + 7 = (k + 7) + 1 by omega, tincturelaw19_IrSays.j1, if_neg (by decide)]
    exact inner l _ i (by omega) (readsL l[i]) (reads_len _) (6 * d + 20) (fun k' hk' => ih (i + 1) (by omega) (by omega) k' hk') _ 0 (Nat.zero_le _) rfl (k + 7) (by have := reads_len l[i]; omega)
theorem says_pure (l : List S25) (hok : okAll l) : tincturelaw19_IrSays.f 1000 l = some true := by
  unfold tincturelaw19_IrSays.f ir_Good.f tinctureref18_Good.f
  rw [awake_at]
  simp only [Option.bind_some, if_true]
  by_cases h1 : (l.length : Int) > 60
  · rw [if_pos h1]
  · rw [if_neg h1, nodes_at l (by omega) 1000 (by omega)]
    simp only [Option.bind_some]
    have e : goodB l = rgoodB (l.map back) := good_agrees l _ (by rw [List.map_map]; exact List.map_id' l)
    rw [e]
    have hb : (rgoodB (l.map back) != rgoodB (l.map back)) = false := by simp
    rw [hb, if_neg (by decide)]
    exact outer l (by omega) hok _ 0 (Nat.zero_le _) rfl 1000 (by omega)
end Go.Proofs.YtefijnbhdjpfpaaDoor.Ir
namespace Go.Proofs.YtefijnbhdjpfpaaDoor.IrSays
open Go Go.RowKit Go.Proofs.YtefijnbhdjpfpaaDoor.Ir Go.Proofs.YtefijnbhdjpfpaaDoor.OpenT Go.Proofs.YtefijnbhdjpfpaaDoorW.PrintWords
set_option linter.unusedVariables false
theorem i64_ok {x : Int} (h : wf3 x) : -9223372036854775808 ≤ x ∧ x ≤ 9223372036854775807 := by
  have h' : IntKind.i64.min ≤ x ∧ x ≤ IntKind.i64.max := by simpa [wf3, Lit.wf] using h
  exact h'
theorem u32_ok {x : Int} (h : wf23 x) : 0 ≤ x ∧ x < 4294967296 := by
  have h' : IntKind.u32.min ≤ x ∧ x ≤ IntKind.u32.max := by simpa [wf23, Lit.wf] using h
  have h2 : (0 : Int) ≤ x ∧ x ≤ 4294967295 := h'
  omega
theorem walk (W : World) (hL : Door.Laid W) (x0 : List (S25)) (wx0 : wf31 x0) (A0 : Option Addr) (c0 : Nat) (l0_0 : x0.length ≤ c0) (r0_0 : Kd.C k25 W A0 x0.length x0) :
    Calls Tryd.prog 4 #[.slice A0 x0.length c0] W fun e w' => e = .returned (.bool true) ∧ Below W.heap.size W w' :=
  tincturelaw19_IrSays.calls 1000 _ _ _ _ W r0_0 l0_0 hL (says_pure x0 (fun n hn => by
    obtain ⟨h0, h1, h2, h3, h4⟩ := wx0.2 n hn
    exact ⟨i64_ok h0, i64_ok h1, i64_ok h2, i64_ok h3, u32_ok h4⟩))
end Go.Proofs.YtefijnbhdjpfpaaDoor.IrSays
