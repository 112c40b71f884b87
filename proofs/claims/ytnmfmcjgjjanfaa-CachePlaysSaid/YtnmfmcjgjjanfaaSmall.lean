/- New, Len, Hits, Misses. -/
import Derived.Test.YtnmfmcjgjjanfaaGet
namespace Go.Proofs.Ytnmfmcjgjjanfaa.Cache
open Go Go.RowKit Go.Proofs.YtnmfmcjgjjanfaaW.PrintWords Go.Proofs.YtnmfmcjgjjanfaaW.PrintLast Go.Proofs.YtnmfmcjgjjanfaaW.PrintMore Go.Proofs.Ytnmfmcjgjjanfaa.Pr Go.Proofs.Ytnmfmcjgjjanfaa.Lits
set_option linter.unusedVariables false
set_option linter.unusedSimpArgs false
def newO (most : Int) : Obj := cb most 0 (.map none) (.slice none 0 0) 0 0
theorem new_ok (most : Int) (w : World) (h1 : 1 ≤ most) (h2 : most ≤ 256) : Calls Try.prog 9 #[.int .i64 most] w fun e w' => e = .returned (.tuple #[.pointer (some ⟨w.heap.size, 0, none⟩), .int .i64 0]) ∧ w' = w.alloc (newO most) := by
  have b1 : decide (most < 1) = false := decide_eq_false (by omega)
  have b2 : decide (256 < most) = false := decide_eq_false (by omega)
  unfold newO cb
  go_enter Try.func9, Try.ntmps9
  go_wp2
  refine bodyPost_ret (results_tmp2 rfl _ _ _) rfl ?_
  exact ⟨rfl, rfl⟩
theorem new_bad (most : Int) (w : World) (h : most < 1 ∨ 256 < most) : Calls Try.prog 9 #[.int .i64 most] w fun e w' => e = .returned (.tuple #[.pointer none, .int .i64 1]) ∧ w = w' := by
  by_cases h1 : most < 1
  · have b1 : decide (most < 1) = true := decide_eq_true h1
    go_enter Try.func9, Try.ntmps9
    go_wp2
    refine bodyPost_ret (results_tmp2 rfl _ _ _) rfl ?_
    exact ⟨rfl, rfl⟩
  · have b1 : decide (most < 1) = false := decide_eq_false h1
    have b2 : decide (256 < most) = true := decide_eq_true (by omega)
    go_enter Try.func9, Try.ntmps9
    go_wp2
    refine bodyPost_ret (results_tmp2 rfl _ _ _) rfl ?_
    exact ⟨rfl, rfl⟩
theorem holds_new (most : Int) (w : World) : Holds (fun x => x = w.heap.size) w.heap.size most 0 [] 0 0 (w.alloc (newO most)) :=
  ⟨rfl, ⟨_, _, blk_new w _, .inl ⟨rfl, rfl, rfl⟩, .inl ⟨rfl, rfl⟩⟩, by simp [One, keysOf]⟩
section
variable {F : Nat → Prop} {w : World} {ms : List En} {b : Nat} {most d h m : Int}
theorem ord_len {ov : Value} {ks : List K} (hO : OrdAt F w ov ks) : ∃ A c, ov = .slice A ks.length c := by
  rcases hO with ⟨rfl, rfl⟩ | ⟨g, cap, cur, rfl, _⟩
  · exact ⟨_, _, rfl⟩
  · exact ⟨_, _, rfl⟩
theorem len_any (hh : Holds F b most d ms h m w) : Calls Try.prog 15 #[.pointer (some ⟨b, 0, none⟩)] w fun e w' => e = .returned (.int .i64 ms.length) ∧ w = w' := by
  obtain ⟨mv, ov, hb, _, hO⟩ := hh.blk
  obtain ⟨A, c, rfl⟩ := ord_len hO
  have c5 : w.cell? ⟨b, 5, none⟩ = some (.slice A (keysOf ms).length c) := (blk_cell hb 5).trans rfl
  clear hb hO hh
  go_enter Try.func15, Try.ntmps15
  go_wp2
  go_ret
  exact ⟨by simp [keysOf], rfl⟩
theorem hits_any (hh : Holds F b most d ms h m w) : Calls Try.prog 14 #[.pointer (some ⟨b, 0, none⟩)] w fun e w' => e = .returned (.int .i64 h) ∧ w = w' := by
  obtain ⟨mv, ov, hb, _, hO⟩ := hh.blk
  have L := load_i64 ⟨b, 6, none⟩ h w ((blk_cell hb 6).trans rfl)
  clear hb hO hh
  go_enter Try.func14, Try.ntmps14
  go_wp2_with (go_at_call 28; refine L.mono ?_; rintro e w' ⟨rfl, rfl⟩)
  go_ret
  exact ⟨rfl, rfl⟩
theorem misses_any (hh : Holds F b most d ms h m w) : Calls Try.prog 18 #[.pointer (some ⟨b, 0, none⟩)] w fun e w' => e = .returned (.int .i64 m) ∧ w = w' := by
  obtain ⟨mv, ov, hb, _, hO⟩ := hh.blk
  have L := load_i64 ⟨b, 7, none⟩ m w ((blk_cell hb 7).trans rfl)
  clear hb hO hh
  go_enter Try.func18, Try.ntmps18
  go_wp2_with (go_at_call 28; refine L.mono ?_; rintro e w' ⟨rfl, rfl⟩)
  go_ret
  exact ⟨rfl, rfl⟩
end
end Go.Proofs.Ytnmfmcjgjjanfaa.Cache
