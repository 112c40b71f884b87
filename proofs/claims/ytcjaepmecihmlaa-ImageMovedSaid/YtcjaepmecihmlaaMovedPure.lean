/- The segments' bytes may stand anywhere in the file: the plain function that the walk computes answers true. -/
import Derived.Test.YtcjaepmecihmlaaBackPure
import Derived.Test.YtcjaepmecihmlaaMoved
namespace Go.Proofs.Ytcjaepmecihmlaa.MovedPure
open Go Go.RowKit Go.Proofs.Ytcjaepmecihmlaa.Img Go.Proofs.YtcjaepmecihmlaaW.PrintWords Go.Proofs.YtcjaepmecihmlaaW.PrintLast Go.Proofs.YtcjaepmecihmlaaW.PrintMore Go.Proofs.Ytcjaepmecihmlaa.ImgPure Go.Proofs.Ytcjaepmecihmlaa.GetPure Go.Proofs.Ytcjaepmecihmlaa.BackPure
set_option linter.unusedVariables false
set_option linter.unusedSimpArgs false
def restP (s : S30) : List Int := leB 4 s.f0 ++ (leB 4 s.f0 ++ (leB 4 ((s.f3.length : Int) % 4294967296) ++ (leB 4 s.f1 ++ (leB 4 (turn s.f2 % 4294967296) ++ leB 4 256))))
theorem row_parts (a : Nat) (s : S30) : rowP a s = leB 4 1 ++ (leB 4 ((a : Int) % 4294967296) ++ restP s) := by
  simp only [rowP, restP, List.flatMap_cons, List.flatMap_nil, List.append_nil, List.append_assoc]
theorem file_one (e : Int) (s : S30) : fileP e [s] = hdrP e 1 ++ (rowP 84 s ++ s.f3) := by
  simp only [fileP, tabP, allP, List.length_cons, List.length_nil, List.flatMap_cons, List.flatMap_nil, List.append_nil]; rfl
theorem moved_list (e : Int) (s : S30) (more : List Int) (hm : more.length ≤ 300) :
    (((fileP e [s]).take 84 ++ more ++ s.f3).set 56 (((84 + (more.length : Int))) % 256)).set 57 (((84 + (more.length : Int)) / 256) % 256) = hdrP e 1 ++ (rowP (84 + more.length) s ++ (more ++ s.f3)) := by
  have ht : (fileP e [s]).take 84 = hdrP e 1 ++ rowP 84 s := by
    have h := List.take_left (l₁ := hdrP e 1 ++ rowP 84 s) (l₂ := s.f3)
    rw [List.length_append, hdr_length, rowP_length] at h
    rw [file_one, ← List.append_assoc]; exact h
  have e1 : leB 4 ((84 : Nat) : Int) = [84, 0, 0, 0] := by decide
  have e2 : leB 4 (((84 + more.length : Nat) : Int) % 4294967296) = [(84 + (more.length : Int)) % 256, (84 + (more.length : Int)) / 256 % 256, 0, 0] := by
    rw [leB4]
    have a1 : ((84 + more.length : Nat) : Int) % 4294967296 = 84 + more.length := by omega
    rw [a1]
    have a2 : (84 + (more.length : Int)) / 65536 % 256 = 0 := by omega
    have a3 : (84 + (more.length : Int)) / 16777216 % 256 = 0 := by omega
    rw [a2, a3]
  have e3 : leB 4 1 = [1, 0, 0, 0] := by decide
  have e4 : ((84 : Nat) : Int) % 4294967296 = ((84 : Nat) : Int) := by decide
  rw [ht, row_parts, row_parts, e2, e4, e1, e3]
  simp only [List.append_assoc]
  rw [List.set_append_right _ _ (by rw [hdr_length]; omega), List.set_append_right _ _ (by rw [hdr_length]; omega), hdr_length]
  rfl
theorem moved_get (e : Int) (s : S30) (more : List Int) (hw : Wf e [s]) (hb : Bytes more) (h2 : 0 ≤ s.f2 ∧ s.f2 ≤ 7) (hm : more.length ≤ 300) (hl : s.f3.length ≤ 600) (g : goodP e [s] = 0) (k : Nat) (hk : 400 < k) :
    image_Get.f k (hdrP e 1 ++ (rowP (84 + more.length) s ++ (more ++ s.f3))) = some (e, [s], 0) := by
  have hs := hw.hs s (by simp)
  have hB : Bytes (hdrP e 1 ++ (rowP (84 + more.length) s ++ (more ++ s.f3))) := by
    have hf := file_bytes e [s] hw
    rw [file_one] at hf
    intro x hx
    rcases List.mem_append.1 hx with hx | hx
    · exact hf x (List.mem_append.2 (.inl hx))
    rcases List.mem_append.1 hx with hx | hx
    · simp only [rowP, List.mem_flatMap] at hx
      obtain ⟨v, _, hx⟩ := hx
      exact leB_bytes _ _ x hx
    rcases List.mem_append.1 hx with hx | hx
    · exact hb x hx
    · exact hs.2.2.2.2 x hx
  have hlen : (hdrP e 1 ++ (rowP (84 + more.length) s ++ (more ++ s.f3))).length = 84 + more.length + s.f3.length := by
    simp only [List.length_append, hdr_length, rowP_length]; omega
  have h := Get_at k e 1 (rowP (84 + more.length) s ++ (more ++ s.f3)) hB (by show (hdrP e 1 ++ _).length ≤ _; rw [hlen]; omega) hw.he (by omega) hk
  have hd : (hdrP e 1 ++ (rowP (84 + more.length) s ++ (more ++ s.f3))).drop 52 = rowP (84 + more.length) s ++ (more ++ s.f3) := by
    have q := List.drop_left (l₁ := hdrP e 1) (l₂ := rowP (84 + more.length) s ++ (more ++ s.f3))
    rwa [hdr_length] at q
  obtain ⟨f0, f4, f8, f12, f16, f20, f24, f28⟩ := row_fld (84 + more.length) s (more ++ s.f3) (by omega) (by omega) h2 hs
  have ht := turn_7 s.f2 h2.1 h2.2
  generalize hL : hdrP e 1 ++ (rowP (84 + more.length) s ++ (more ++ s.f3)) = L at *
  have F : ∀ j, fld L 52 j = le 4 ((rowP (84 + more.length) s ++ (more ++ s.f3)).drop j) := fun j => by rw [fld, ← List.drop_drop, hd]
  have hdat : (L.take ((84 + more.length : Nat) + (s.f3.length : Int)).toNat).drop ((84 + more.length : Nat) : Int).toNat = s.f3 := by
    rw [show (((84 + more.length : Nat) : Int) + (s.f3.length : Int)).toNat = 84 + more.length + s.f3.length by omega, Int.toNat_natCast, List.take_of_length_le (by omega), show 84 + more.length = 52 + (32 + more.length) by omega, ← List.drop_drop, hd, ← List.append_assoc]
    have q := List.drop_left (l₁ := rowP (84 + more.length) s ++ more) (l₂ := s.f3)
    rw [List.length_append, rowP_length] at q
    exact q
  have hok : okSeg L 52 := ⟨by omega, by rw [F, List.drop_zero]; exact f0, by rw [F, F, f12, f8], by rw [F, f24]; exact ht.1.2, by rw [F]; exact f28, by rw [F, F, f4, f16, hlen]; omega⟩
  have hseg : segAt L 52 = s := by
    simp only [segAt, F]
    rw [f4, f8, f16, f20, f24, ht.2, hdat]
  have hr : readS L 1 0 = some [s] := by
    simp only [readS, Nat.mul_zero, Nat.add_zero]
    rw [if_pos hok, hseg]; rfl
  rw [h, hr]
  simp only [done, g, if_true]
theorem moved (e : Int) (xs : List S30) (more : List Int) (hw : Wf e xs) (hb : Bytes more) : tincturelaw8_ImageMoved.f 1000 e xs more = some true := by
  rw [tincturelaw8_ImageMoved.f, awake_at, Option.bind_some, if_pos rfl]
  obtain ⟨b, hgb, hb2⟩ := great_at 1000 e xs (by omega)
  rw [hgb, Option.bind_some]
  have T : tincturelaw8_ImageMoved.j0 1000 more true e xs = some true := by simp only [tincturelaw8_ImageMoved.j0, if_true]
  cases b with
  | true => rw [if_pos rfl]; exact T
  | false =>
    obtain ⟨hx, hs⟩ := hb2 rfl
    rw [if_neg (by simp)]
    by_cases h1 : (xs.length : Int) = 1
    · rw [if_pos h1]
      by_cases hm : (more.length : Int) > 300
      · rw [decide_eq_true hm]; exact T
      rw [decide_eq_false hm]
      obtain ⟨s, rfl⟩ : ∃ s, xs = [s] := List.length_eq_one_iff.1 (by omega)
      have hl := hs s (by simp)
      simp only [tincturelaw8_ImageMoved.j0]
      rw [if_neg (by simp), Put_at 999 e [s] hx hs (by omega), Option.bind_some]
      by_cases g : goodP e [s] = 0
      · have hf : (fileP e [s]).length = 84 + s.f3.length := by
          rw [file_one]; simp only [List.length_append, hdr_length, rowP_length]; omega
        have hng : ¬ ((((fileP e [s]).length : Nat) : Int) > 65536) := by omega
        rw [if_pos g, if_neg hng]
        obtain ⟨_, h2⟩ := good_parts e [s] hx g
        have hr0 : rd_T30 [s] 0 = s := rfl
        have w0 : wrap64 (84 + (more.length : Int)) = 84 + more.length := wrap_id (by omega) (by omega)
        have ht : ((fileP e [s]).take 84).length = 84 := by rw [List.length_take]; omega
        have hy : ((fileP e [s]).take 84 ++ more ++ s.f3).length = 84 + more.length + s.f3.length := by simp only [List.length_append, ht]
        simp only [if_true, Option.bind_some, List.nil_append, List.length_nil, hr0, w0]
        rw [if_pos (by simp), if_pos (by omega), if_pos (by omega), if_pos (by omega), if_pos (by simp only [List.length_append, ht]; omega), if_pos (by rw [hy]; omega), if_pos (by rw [hy]; omega)]
        have hml := moved_list e s more (by omega)
        have e56 : (56 : Int).toNat = 56 := rfl
        have e57 : (57 : Int).toNat = 57 := rfl
        rw [e56, e57, hml, moved_get e s more hw hb (h2 s (by simp)) (by omega) hl g 999 (by omega), Option.bind_some, if_neg (by rw [hy]; omega)]
        simp only [if_true]
        rw [img_at 999 e [s] (by simp) (by omega), Option.bind_some, Option.bind_some, same_at _ _ _ (by simp), Option.bind_some, if_pos rfl]
        simp [hr0]
      · rw [if_neg g]
        simp only
        rw [if_neg g]
    · rw [if_neg h1]; exact T
end Go.Proofs.Ytcjaepmecihmlaa.MovedPure
