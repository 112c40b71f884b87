/- CacheKnown. -/
import Derived.Test.YtnmfmcjgjjanfaaDropP
import Derived.Test.YtnmfmcjgjjanfaaAwake
namespace Go.Proofs.Ytnmfmcjgjjanfaa.CacheKnown
open Go Go.RowKit Go.Proofs.YtnmfmcjgjjanfaaW.PrintWords Go.Proofs.YtnmfmcjgjjanfaaW.PrintLast Go.Proofs.YtnmfmcjgjjanfaaW.PrintMore Go.Proofs.Ytnmfmcjgjjanfaa.Pr Go.Proofs.Ytnmfmcjgjjanfaa.Lits Go.Proofs.Ytnmfmcjgjjanfaa.Cache
set_option linter.unusedVariables false
set_option linter.unusedSimpArgs false
/-- What stands between two calls. -/
def St (W : World) (b : Nat) (ms : List En) (h m : Int) (w : World) : Prop := ∃ d, Has (fun x => W.heap.size ≤ x) b 2 d ms h m w ∧ Below W.heap.size W w
section
variable {W w : World} {b : Nat} {ms ms' : List En} {h m : Int}
theorem St.of {w' : World} {d : Int} {h' m' : Int} (hs : Below W.heap.size W w) (h1 : Has (fun x => W.heap.size ≤ x) b 2 d ms' h' m' w') (h2 : Mod (fun x => W.heap.size ≤ x) w w') : St W b ms' h' m' w' := ⟨d, h1, h2.below hs (fun x hx => hx) hs.size⟩
theorem put_st (k : K) (gen : Int) (hs : St W b ms h m w) (hn : ms.length ≤ 1000) (he : putL 2 ms k gen [] = ms') :
    Calls Try.prog 10 #[.pointer (some ⟨b, 0, none⟩), .int .u32 k.1, .int .i64 k.2, .int .u32 gen, .slice none 0 0] w fun e w' => e = .returned (.tuple #[]) ∧ St W b ms' h m w' := by
  obtain ⟨d, h1, h2⟩ := hs
  refine (put_has k gen none 0 [] h1 (fun x hx => Nat.le_trans h2.size hx) hn (fun w' _ => ⟨rfl, by simp, fun h => by simp at h⟩) (by simp) (by simp) (fun _ => rfl)).mono ?_
  rintro e w' ⟨rfl, p1, p2⟩
  rw [he] at p1
  exact ⟨rfl, St.of h2 p1 p2⟩
theorem no_st (k : K) (gen : Int) (hk : idx ms k = none) (hs : St W b ms h m w) (hn : ms.length ≤ 1000) (a0 : 0 ≤ h) (a1 : h ≤ 1000000) (a2 : 0 ≤ m) (a3 : m ≤ 1000000) :
    Calls Try.prog 11 #[.pointer (some ⟨b, 0, none⟩), .int .u32 k.1, .int .i64 k.2, .int .u32 gen] w fun e w' => e = .returned (.tuple #[.slice none 0 0, .bool false]) ∧ St W b ms h (m + 1) w' := by
  obtain ⟨d, h1, h2⟩ := hs
  refine (get_no_has k gen hk h1 (fun x hx => Nat.le_trans h2.size hx) hn a0 a1 a2 a3).mono ?_
  rintro e w' ⟨rfl, p1, p2⟩
  exact ⟨rfl, St.of h2 p1 p2⟩
theorem hit_st (k : K) (gen : Int) (j : Nat) (kk : K) (hk : idx ms k = some j) (he : ms[j]? = some (kk, gen, [])) (hs : St W b ms h m w) (hn : ms.length ≤ 1000) (a0 : 0 ≤ h) (a1 : h ≤ 1000000) (a2 : 0 ≤ m) (a3 : m ≤ 1000000) :
    Calls Try.prog 11 #[.pointer (some ⟨b, 0, none⟩), .int .u32 k.1, .int .i64 k.2, .int .u32 gen] w fun e w' => ∃ A n c, e = .returned (.tuple #[.slice A n c, .bool true]) ∧ St W b ms (h + 1) m w' := by
  obtain ⟨d, h1, h2⟩ := hs
  refine (get_hit_has k gen j kk [] hk he (by simp) h1 (fun x hx => Nat.le_trans h2.size hx) hn a0 a1 a2 a3).mono ?_
  rintro e w' ⟨v, s, rfl, _, _, hv, p1, p2⟩
  obtain ⟨A, c, rfl, _⟩ := Kd.R_reads hv
  exact ⟨_, _, _, rfl, St.of h2 (p1.mono (fun x hx => hx.1)) p2⟩
theorem drop_st (pc : Int) (n : Nat) (hs : St W b ms h m w) (hn : ms.length ≤ 1000) (hc : (ms.filter (fun e => pg pc e.1)).length = n) (he : ms.filter (fun e => !pg pc e.1) = ms') :
    Calls Try.prog 16 #[.pointer (some ⟨b, 0, none⟩), .int .u32 pc] w fun e w' => e = .returned (.int .i64 n) ∧ St W b ms' h m w' := by
  obtain ⟨d, h1, h2⟩ := hs
  refine (drop_has pc h1 (fun x hx => Nat.le_trans h2.size hx) hn).mono ?_
  rintro e w' ⟨rfl, p1, p2⟩
  rw [he] at p1
  exact ⟨by rw [hc], St.of h2 p1 p2⟩
theorem clear_st (hs : St W b ms h m w) : Calls Try.prog 17 #[.pointer (some ⟨b, 0, none⟩)] w fun e w' => e = .returned (.tuple #[]) ∧ St W b [] h m w' := by
  obtain ⟨d, h1, h2⟩ := hs
  refine (clear_has h1 (fun x hx => Nat.le_trans h2.size hx)).mono ?_
  rintro e w' ⟨rfl, p1, p2⟩
  exact ⟨rfl, St.of h2 p1 p2⟩
end
set_option maxRecDepth 100000 in
set_option maxHeartbeats 2000000 in
theorem walk (W : World) : Calls Try.prog 6 #[] W fun e w' => e = .returned (.bool true) ∧ Below W.heap.size W w' := by
  go_enter Try.func6, Try.ntmps6
  go_wp2_with fail
  refine (awake _).mono ?_
  rintro e w1 ⟨rfl, h1⟩
  have B1 := Lib.hid h1
  clear h1
  go_wp2_with fail
  refine (new_bad 0 _ (by decide)).mono ?_
  rintro e w' ⟨rfl, rfl⟩
  go_wp2_with fail
  refine (new_bad 257 _ (by decide)).mono ?_
  rintro e w' ⟨rfl, rfl⟩
  go_wp2_with fail
  refine (new_ok 2 _ (by decide) (by decide)).mono ?_
  rintro e w2 ⟨rfl, h2⟩
  obtain ⟨b, hb⟩ : ∃ b, b = w1.heap.size := ⟨_, rfl⟩
  have S : Hid (St W b [] 0 0 w2) := Lib.hid (by rw [hb, h2]; exact ⟨0, Has.new 2 w1 B1.out.size, below_step B1.out ((Below.refl _ _).alloc (Nat.le_refl _) _)⟩)
  rw [← hb]
  clear h2 hb B1
  have C : Calls Try.prog 10 #[.pointer (some ⟨b, 0, none⟩), .int .u32 4, .int .i64 0, .int .u32 1, .slice none 0 0] w2 fun e w' => e = .returned (.tuple #[]) ∧ St W b [((4, 0), 1, [])] 0 0 w' := put_st (4, 0) 1 S.out (by simp) rfl
  go_wp2_with fail
  refine C.mono ?_
  clear C S
  rintro e w3 ⟨rfl, hs⟩
  have S := Lib.hid hs
  clear hs
  have C : Calls Try.prog 10 #[.pointer (some ⟨b, 0, none⟩), .int .u32 4, .int .i64 1, .int .u32 1, .slice none 0 0] w3 fun e w' => e = .returned (.tuple #[]) ∧ St W b [((4, 0), 1, []), ((4, 1), 1, [])] 0 0 w' := put_st (4, 1) 1 S.out (by simp) rfl
  go_wp2_with fail
  refine C.mono ?_
  clear C S
  rintro e w4 ⟨rfl, hs⟩
  have S := Lib.hid hs
  clear hs
  have C : Calls Try.prog 10 #[.pointer (some ⟨b, 0, none⟩), .int .u32 4, .int .i64 0, .int .u32 2, .slice none 0 0] w4 fun e w' => e = .returned (.tuple #[]) ∧ St W b [((4, 1), 1, []), ((4, 0), 2, [])] 0 0 w' := put_st (4, 0) 2 S.out (by simp) rfl
  go_wp2_with fail
  refine C.mono ?_
  clear C S
  rintro e w5 ⟨rfl, hs⟩
  have S := Lib.hid hs
  clear hs
  have C : Calls Try.prog 10 #[.pointer (some ⟨b, 0, none⟩), .int .u32 300, .int .i64 0, .int .u32 1, .slice none 0 0] w5 fun e w' => e = .returned (.tuple #[]) ∧ St W b [((4, 0), 2, []), ((300, 0), 1, [])] 0 0 w' := put_st (300, 0) 1 S.out (by simp) rfl
  go_wp2_with fail
  refine C.mono ?_
  clear C S
  rintro e w6 ⟨rfl, hs⟩
  have S := Lib.hid hs
  clear hs
  have C : Calls Try.prog 11 #[.pointer (some ⟨b, 0, none⟩), .int .u32 4, .int .i64 1, .int .u32 1] w6 fun e w' => e = .returned (.tuple #[.slice none 0 0, .bool false]) ∧ St W b [((4, 0), 2, []), ((300, 0), 1, [])] 0 (0 + 1) w' := no_st (4, 1) 1 rfl S.out (by simp) (by decide) (by decide) (by decide) (by decide)
  go_wp2_with fail
  refine C.mono ?_
  clear C S
  rintro e w7 ⟨rfl, hs⟩
  have S := Lib.hid hs
  clear hs
  have C : Calls Try.prog 11 #[.pointer (some ⟨b, 0, none⟩), .int .u32 4, .int .i64 0, .int .u32 2] w7 fun e w' => ∃ A n c, e = .returned (.tuple #[.slice A n c, .bool true]) ∧ St W b [((4, 0), 2, []), ((300, 0), 1, [])] (0 + 1) (0 + 1) w' := hit_st (4, 0) 2 0 (4, 0) rfl rfl S.out (by simp) (by decide) (by decide) (by decide) (by decide)
  go_wp2_with fail
  refine C.mono ?_
  clear C S
  rintro e w8 ⟨A1, n1, c1, rfl, hs⟩
  have S := Lib.hid hs
  clear hs
  have C : Calls Try.prog 16 #[.pointer (some ⟨b, 0, none⟩), .int .u32 200] w8 fun e w' => e = .returned (.int .i64 (1 : Nat)) ∧ St W b [((300, 0), 1, [])] (0 + 1) (0 + 1) w' := drop_st 200 1 S.out (by simp) rfl rfl
  go_wp2_with fail
  refine C.mono ?_
  clear C S
  rintro e w9 ⟨rfl, hs⟩
  have S := Lib.hid hs
  clear hs
  have C : Calls Try.prog 11 #[.pointer (some ⟨b, 0, none⟩), .int .u32 300, .int .i64 0, .int .u32 1] w9 fun e w' => ∃ A n c, e = .returned (.tuple #[.slice A n c, .bool true]) ∧ St W b [((300, 0), 1, [])] (0 + 1 + 1) (0 + 1) w' := hit_st (300, 0) 1 0 (300, 0) rfl rfl S.out (by simp) (by decide) (by decide) (by decide) (by decide)
  go_wp2_with fail
  refine C.mono ?_
  clear C S
  rintro e w10 ⟨A2, n2, c2, rfl, hs⟩
  have S := Lib.hid hs
  clear hs
  have C : Calls Try.prog 17 #[.pointer (some ⟨b, 0, none⟩)] w10 fun e w' => e = .returned (.tuple #[]) ∧ St W b [] (0 + 1 + 1) (0 + 1) w' := clear_st S.out
  go_wp2_with fail
  refine C.mono ?_
  clear C S
  rintro e w11 ⟨rfl, hs⟩
  have S := Lib.hid hs
  clear hs
  obtain ⟨d, h1, h2⟩ := id S.out
  have LE := len_has h1
  have HI := hits_has h1
  have MI := misses_has h1
  have HB := Lib.hid h2
  clear h1 h2 S
  go_wp2_with fail
  refine LE.mono ?_
  rintro e w20 ⟨rfl, rfl⟩
  clear LE
  go_wp2_with fail
  refine HI.mono ?_
  rintro e w20 ⟨rfl, rfl⟩
  clear HI
  go_wp2_with fail
  refine MI.mono ?_
  rintro e w20 ⟨rfl, rfl⟩
  go_wp2
  go_ret
  exact ⟨rfl, HB.out⟩
end Go.Proofs.Ytnmfmcjgjjanfaa.CacheKnown
