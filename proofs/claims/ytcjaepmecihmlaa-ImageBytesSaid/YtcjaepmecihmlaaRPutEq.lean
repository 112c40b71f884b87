/- What the reference's PutImage writes: what the program's Put writes. -/
import Derived.Test.YtcjaepmecihmlaaGoodEq
import Derived.Test.YtcjaepmecihmlaaI10
import Derived.Test.YtcjaepmecihmlaaI11
namespace Go.Proofs.Ytcjaepmecihmlaa.RPutEq
open Go Go.RowKit Go.Proofs.Ytcjaepmecihmlaa.Img Go.Proofs.YtcjaepmecihmlaaW.PrintWords Go.Proofs.YtcjaepmecihmlaaW.PrintLast Go.Proofs.YtcjaepmecihmlaaW.PrintMore Go.Proofs.Ytcjaepmecihmlaa.ImgPure Go.Proofs.Ytcjaepmecihmlaa.GoodEq
set_option linter.unusedVariables false
set_option linter.unusedSimpArgs false
theorem zdo (b : List Int) (v : Int) (h : b.length < 1000000) : tinctureref7_W32.f b v = some (b ++ leB 4 v) := by
  unfold tinctureref7_W32.f
  simp only [Option.bind_some, List.length_cons, List.length_nil, List.nil_append]
  rw [if_pos (by omega), if_pos (by omega), leB4]
theorem flags_7 (x : Int) (h0 : 0 ≤ x) (h1 : x ≤ 7) : tinctureref7_flags.f x = some (turn x) := by
  rcases (by omega : x = 0 ∨ x = 1 ∨ x = 2 ∨ x = 3 ∨ x = 4 ∨ x = 5 ∨ x = 6 ∨ x = 7) with rfl | rfl | rfl | rfl | rfl | rfl | rfl | rfl <;> decide +kernel
section
variable {e : Int} {xs : List S30} (hx : xs.length ≤ 10) (hs : ∀ s ∈ xs, s.f3.length ≤ 600)
include hx hs
theorem rput_l1 (d : Nat) : ∀ (k j : Nat) (b : List Int), j ≤ xs.length → xs.length - j = d → b.length + 1000 * d ≤ 200000 → d < k →
    tinctureref7_PutImage.l1 k b (j : Int) e (xs.map c65) = some (if (((b ++ allP (xs.drop j)).length : Nat) : Int) > 65536 then ([], 2) else (b ++ allP (xs.drop j), 0)) := by
  induction d with
  | zero =>
    intro k j b h1 h2 h3 h4
    obtain ⟨k, rfl⟩ : ∃ m, k = m + 1 := ⟨k - 1, by omega⟩
    simp only [tinctureref7_PutImage.l1]
    rw [if_neg (by simp; omega), List.drop_eq_nil_of_le (by omega)]
    simp only [allP, List.flatMap_nil, List.append_nil]
    split <;> rfl
  | succ d ih =>
    intro k j b h1 h2 h3 h4
    obtain ⟨k, rfl⟩ : ∃ m, k = m + 1 := ⟨k - 1, by omega⟩
    have hj : j < xs.length := by omega
    have hf := hs xs[j] (List.getElem_mem _)
    have f3 : (c65 xs[j]).f3 = xs[j].f3 := rfl
    simp only [tinctureref7_PutImage.l1]
    rw [if_pos (by simp; omega), if_pos (by omega), rd65 xs j hj, f3, if_pos (by omega), zb9 hj (by omega), ih k (j + 1) _ (by omega) (by omega) (by simp; omega) (by omega), List.drop_eq_getElem_cons hj]
    simp only [allP, List.flatMap_cons, List.append_assoc]
theorem rput_l0 (h7 : ∀ s ∈ xs, 0 ≤ s.f2 ∧ s.f2 ≤ 7) (d : Nat) : ∀ (k j : Nat) (b : List Int) (a : Nat), j ≤ xs.length → xs.length - j = d → b.length + 2000 * d ≤ 100000 → a + 1000 * d ≤ 100000 → d + 20 < k →
    tinctureref7_PutImage.l0 k b (a : Int) (j : Int) e (xs.map c65) = some (if (((b ++ tabP a (xs.drop j) ++ allP xs).length : Nat) : Int) > 65536 then ([], 2) else (b ++ tabP a (xs.drop j) ++ allP xs, 0)) := by
  induction d with
  | zero =>
    intro k j b a h1 h2 h3 h4 h5
    obtain ⟨k, rfl⟩ : ∃ m, k = m + 1 := ⟨k - 1, by omega⟩
    simp only [tinctureref7_PutImage.l0]
    have := rput_l1 hx hs (e := e) xs.length k 0 b (by omega) (by omega) (by omega) (by omega)
    rw [List.drop_zero] at this
    rw [if_neg (by simp; omega), List.drop_eq_nil_of_le (by omega)]
    simp only [tabP, List.append_nil]
    exact this
  | succ d ih =>
    intro k j b a h1 h2 h3 h4 h5
    obtain ⟨k, rfl⟩ : ∃ m, k = m + 1 := ⟨k - 1, by omega⟩
    have hj : j < xs.length := by omega
    have hf := hs xs[j] (List.getElem_mem _)
    obtain ⟨g0, g1⟩ := h7 xs[j] (List.getElem_mem _)
    have f0 : (c65 xs[j]).f0 = xs[j].f0 := rfl
    have f1 : (c65 xs[j]).f1 = xs[j].f1 := rfl
    have f2 : (c65 xs[j]).f2 = xs[j].f2 := rfl
    have f3 : (c65 xs[j]).f3 = xs[j].f3 := rfl
    simp only [tinctureref7_PutImage.l0]
    have el : (xs[j].f3.length : Int) % 4294967296 = xs[j].f3.length := by omega
    have ea : ((a : Int) + (xs[j].f3.length : Int) % 4294967296) % 4294967296 = ((a + xs[j].f3.length : Nat) : Int) := by omega
    rw [if_pos (by simp; omega), if_pos (by omega), rd65 xs j hj, f0, f1, f2, f3, zdo _ _ (by omega), Option.bind_some, zdo _ _ (by simp [zbp]; omega), Option.bind_some, zdo _ _ (by simp [zbp]; omega), Option.bind_some, zdo _ _ (by simp [zbp]; omega), Option.bind_some,
      zdo _ _ (by simp [zbp]; omega), Option.bind_some, zdo _ _ (by simp [zbp]; omega), Option.bind_some, flags_7 _ g0 g1, Option.bind_some, zdo _ _ (by simp [zbp]; omega), Option.bind_some, zdo _ _ (by simp [zbp]; omega), Option.bind_some, zb9 hj (by omega), ea,
      ih k (j + 1) _ _ (by omega) (by omega) (by simp [zbp]; omega) (by omega) (by omega), List.drop_eq_getElem_cons hj]
    have hrow : b ++ leB 4 1 ++ leB 4 (a : Int) ++ leB 4 xs[j].f0 ++ leB 4 xs[j].f0 ++ leB 4 ((xs[j].f3.length : Int) % 4294967296) ++ leB 4 xs[j].f1 ++ leB 4 (turn xs[j].f2 % 4294967296) ++ leB 4 256 = b ++ rowP a xs[j] := by
      have ea2 : (a : Int) % 4294967296 = a := by omega
      unfold rowP
      rw [ea2]
      simp only [List.flatMap_cons, List.flatMap_nil, List.append_assoc, List.append_nil]
    rw [hrow]
    simp only [tabP, List.append_assoc]
theorem rput_at (he : 0 ≤ e ∧ e < 4294967296) (hw : ∀ s ∈ xs, Wf1 s) (k : Nat) (hk : 400 < k) :
    tinctureref7_PutImage.f k e (xs.map c65) = some (if goodP e xs = 0 then (if (((fileP e xs).length : Nat) : Int) > 65536 then ([], 2) else (fileP e xs, 0)) else ([], goodP e xs)) := by
  unfold tinctureref7_PutImage.f
  rw [zgl he hx hw k (by omega), Option.bind_some]
  by_cases g : goodP e xs = 0
  · obtain ⟨h8, h7⟩ := zh5 e xs hx g
    have hn : ((xs.length : Int)) % 256 = xs.length := by omega
    have e1 : (wrap64 (52 + wrap64 (32 * (xs.length : Int)))) % 4294967296 = ((52 + 32 * xs.length : Nat) : Int) := by
      rw [zbu (x := 32 * (xs.length : Int)) (by omega) (by omega), zbu (by omega) (by omega)]; omega
    rw [if_pos g, if_pos g, zdo _ _ (by simp), Option.bind_some, zdo _ _ (by simp [zbp]), Option.bind_some, zdo _ _ (by simp [zbp]), Option.bind_some, zdo _ _ (by simp [zbp]), Option.bind_some, List.length_map]
    simp only [Option.bind_some, List.length_cons, List.length_nil]
    rw [if_pos (by simp [zbp]), e1, hn]
    have hh : [127, 69, 76, 70, 1, 1, 1, 0, 0, 0, 0, 0, 0, 0, 0, 0, 2, 0, 243, 0, 1, 0, 0, 0] ++ leB 4 e ++ leB 4 52 ++ leB 4 0 ++ leB 4 0 ++ [52, 0, 32, 0, (xs.length : Int), 0, 0, 0, 0, 0, 0, 0] = hdrP e xs.length := by
      have n1 : leB 2 (xs.length : Int) = [(xs.length : Int), 0] := by
        rw [leB2]
        have a1 : (xs.length : Int) % 256 = xs.length := by omega
        have a2 : (xs.length : Int) / 256 % 256 = 0 := by omega
        rw [a1, a2]
      have n2 : leB 4 52 = [52, 0, 0, 0] := rfl
      have n3 : leB 4 0 = [0, 0, 0, 0] := rfl
      unfold hdrP
      rw [n1, n2, n3]
      simp only [List.append_assoc, List.cons_append, List.nil_append]
    rw [hh]
    have hP := rput_l0 hx hs h7 (e := e) xs.length k 0 (hdrP e xs.length) (52 + 32 * xs.length) (by omega) (by omega) (by rw [zcj]; omega) (by omega) (by omega)
    rw [List.drop_zero] at hP
    refine hP.trans ?_
    rw [fileP, List.append_assoc]
  · rw [if_neg g, if_neg g]
end
end Go.Proofs.Ytcjaepmecihmlaa.RPutEq
