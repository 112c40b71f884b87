/- What nodes and equal come to, plainly. -/
import Derived.Test.YtnmfmcjgjjanfaaI2
namespace Go.Proofs.Ytnmfmcjgjjanfaa.Cache
open Go Go.RowKit Go.Proofs.YtnmfmcjgjjanfaaW.PrintWords Go.Proofs.Ytnmfmcjgjjanfaa.Pr
set_option linter.unusedVariables false
set_option linter.unusedSimpArgs false
def conv (n : S25) : S83 := ⟨n.f0, n.f1, n.f2, n.f3, n.f4⟩
def refs (l : List S25) : List S83 := l.map conv
theorem nodes_l0 (l : List S25) (hl : l.length ≤ 1000000) : ∀ (n j k : Nat) (acc : List S83), n + j = l.length → acc.length = j → tincturelaw25_nodes.l0 (n + 1 + k) l acc (j : Int) = some (acc ++ (l.drop j).map conv)
  | 0, j, k, acc, h, ha => by
    rw [show 0 + 1 + k = k + 1 by omega]
    unfold tincturelaw25_nodes.l0
    rw [if_neg (by omega), List.drop_eq_nil_of_le (by omega)]
    simp
  | n + 1, j, k, acc, h, ha => by
    rw [show n + 1 + 1 + k = (n + 1 + k) + 1 by omega]
    unfold tincturelaw25_nodes.l0
    have hj : j < l.length := by omega
    rw [if_pos (by omega), if_pos (by omega), if_pos (by omega)]
    have hw : wrap64 ((j : Int) + 1) = ((j + 1 : Nat) : Int) := by unfold wrap64; omega
    have hr : rd_T25 l (j : Int) = l[j] := by
      unfold rd_T25
      simp [hj]
    rw [hw, hr, nodes_l0 l hl n (j + 1) k _ (by omega) (by simp [ha]), List.drop_eq_getElem_cons hj, List.map_cons, List.append_assoc]
    rfl
theorem nodes_f (l : List S25) (hl : l.length ≤ 1000000) (k : Nat) : tincturelaw25_nodes.f (l.length + 1 + k) l = some (refs l) := by
  unfold tincturelaw25_nodes.f
  have := nodes_l0 l hl l.length 0 k [] (by omega) rfl
  simpa [refs] using this
theorem equal_l0 (r : List S83) (hl : r.length ≤ 1000000) : ∀ (n j k : Nat), n + j = r.length → tincturelaw25_equal.l0 (n + 1 + k) r r (j : Int) = some true
  | 0, j, k, h => by
    rw [show 0 + 1 + k = k + 1 by omega]
    unfold tincturelaw25_equal.l0
    rw [if_neg (by omega)]
  | n + 1, j, k, h => by
    rw [show n + 1 + 1 + k = (n + 1 + k) + 1 by omega]
    unfold tincturelaw25_equal.l0
    have hw : wrap64 ((j : Int) + 1) = ((j + 1 : Nat) : Int) := by unfold wrap64; omega
    rw [if_pos (by omega), if_pos (by omega), if_pos (by omega), if_neg (by simp), hw]
    exact equal_l0 r hl n (j + 1) k (by omega)
theorem equal_f (l : List S25) (hl : l.length ≤ 1000000) (k : Nat) : tincturelaw25_equal.f (l.length + 1 + k) l (refs l) = some true := by
  unfold tincturelaw25_equal.f
  rw [nodes_f l hl k]
  have := equal_l0 (refs l) (by simpa [refs] using hl) (refs l).length 0 k (by omega)
  have e : (refs l).length = l.length := by simp [refs]
  rw [e] at this
  simpa using this
end Go.Proofs.Ytnmfmcjgjjanfaa.Cache
