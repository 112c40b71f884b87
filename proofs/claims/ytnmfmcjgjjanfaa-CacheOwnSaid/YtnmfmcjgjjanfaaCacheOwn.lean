/- CacheOwn. -/
import Derived.Test.YtnmfmcjgjjanfaaAwake
import Derived.Test.YtnmfmcjgjjanfaaPlainN
import Derived.Test.YtnmfmcjgjjanfaaOpenT
namespace Go.Proofs.Ytnmfmcjgjjanfaa.CacheOwn
open Go Go.RowKit Go.Proofs.YtnmfmcjgjjanfaaW.PrintWords Go.Proofs.YtnmfmcjgjjanfaaW.PrintLast Go.Proofs.YtnmfmcjgjjanfaaW.PrintMore Go.Proofs.Ytnmfmcjgjjanfaa.Pr Go.Proofs.Ytnmfmcjgjjanfaa.Lits Go.Proofs.Ytnmfmcjgjjanfaa.Cache Go.Proofs.Ytnmfmcjgjjanfaa.Open Go.Proofs.Ytnmfmcjgjjanfaa.OpenT
set_option linter.unusedVariables false
set_option linter.unusedSimpArgs false
theorem b1 (xs : List S25) : putL 3 [] (8, 0) 1 xs = [((8, 0), 1, xs)] := rfl
theorem b2 (xs : List S25) : idx [((8, 0), 1, xs)] (8, 0) = some 0 := rfl
set_option maxRecDepth 100000 in
set_option maxHeartbeats 2000000 in
theorem walk (W : World) (x0 : List (S25)) (wx0 : wf22 x0) (A0 : Option Addr) (c0 : Nat) (l0_0 : x0.length ≤ c0) (r0_0 : Kd.C k25 W A0 x0.length x0) (x1 : S25) (wx1 : wf25 x1) :
    Calls Try.prog 3 #[.slice A0 x0.length c0, .agg #[.int .i64 x1.f0, .int .i64 x1.f1, .int .i64 x1.f2, .int .i64 x1.f3, .int .u32 x1.f4]] W fun e w' => e = .returned (.bool true) ∧ Below W.heap.size W w' := by
  clear wx0 wx1
  have hu27 := Try.underlying27
  have R0 := Lib.hid r0_0
  have L0 := Lib.hid l0_0
  clear r0_0 l0_0
  go_enter Try.func3, Try.ntmps3
  go_wp2_with fail
  refine (awake _).mono ?_
  rintro e w1 ⟨rfl, h1⟩
  have B1 := Lib.hid (below_step ((Below.refl W.heap.size W).alloc (Nat.le_refl _) (.cells (ncs x1) 25)) h1)
  have N1 := Lib.hid (blk_below (blk_new W (.cells (ncs x1) 25)) h1)
  clear h1
  by_cases hn : x0.length < 1 ∨ 50 < x0.length
  · have hB := B1.out
    rcases hn with hn | hn
    · have : x0.length = 0 := by omega
      go_wp2
      go_ret
      exact ⟨rfl, hB⟩
    · go_wp2
      go_ret
      exact ⟨rfl, hB⟩
  · have hn1 : 1 ≤ x0.length := by omega
    have hn2 : x0.length ≤ 50 := by omega
    clear hn
    go_wp2_with fail
    refine (new_ok 3 _ (by decide) (by decide)).mono ?_
    rintro e w2 ⟨rfl, h2⟩
    obtain ⟨b, hb⟩ : ∃ b, b = w1.heap.size := ⟨_, rfl⟩
    have HS2 : Has (fun x => x = b) b 3 0 [] 0 0 w2 := by rw [hb, h2]; exact Has.new 3 w1 rfl
    have b2 : Below w1.heap.size w1 w2 := by rw [h2]; exact (Below.refl _ _).alloc (Nat.le_refl _) _
    have B2 := Lib.hid (below_step B1.out b2)
    have N2 := Lib.hid (blk_below N1.out b2)
    have hNb : W.heap.size < b := by rw [hb]; exact blk_lt N1.out
    have hb2 : b < w2.heap.size := by rw [hb, h2]; simp
    have H2 := Lib.hid HS2
    rw [← hb]
    clear h2 HS2 b2 B1 N1 hb
    have C2 := Lib.hid (Kd.C_below R0.out B2.out)
    go_wp2_with ((with_reducible refine gate_builtin (b := .append) (xs := #[.tmp 26, .tmp 27]) rfl ?_); at_builtin; refine Kd.R_append_rows k25 (Rr := k25.K w2) (w0 := w2) w2.heap.size rfl (.tmp 26) (.tmp 27) 22 25 (.agg #[(.int .i64 0), (.int .i64 0), (.int .i64 0), (.int .i64 0), (.int .u32 0)]) 40 rfl Try.underlying22 info25 rfl (by decide) (by omega) (.slice (some ⟨w2.heap.size, 0, none⟩) 0 0) [] x0 A0 _ c0 (fun _ => True) (fun _ => False) rfl rfl ?aO ?aR ?aK (fun _ h => h.elim) (fun _ _ => trivial) ?aB ?aS ?aL ?_; (case aO => exact lit_any w2); (case aR => exact Kd.C_below C2.out (Below.alloc (Below.refl _ _) (Nat.le_refl _) _)); (case aK => intro y cs h; rw [k25_open h]; exact k25_mkM _ _ _ _); (case aB => exact (Below.alloc (Below.refl _ _) (Nat.le_refl _) _)); (case aS => simp); (case aL => simp; omega); intro v1 w3 ho hb3 hg hat; rw [List.nil_append] at ho; obtain ⟨g, cap, u0, u1, u2, u3, u4, rfl, g1, g2, g3, g4⟩ := R25_some ho hn1; have HO := Lib.hid ho; have HB3 := Lib.hid hb3; clear hg hat ho hb3 g3 g4)
    have HP3 : Has (fun x => x = b ∨ g < x) b 3 0 [] 0 0 w3 := (H2.out.below HB3.out).mono (fun x hx => .inl hx)
    have up3 : Up (fun x => x = b ∨ g < x) w3 := fun x hx => .inr (by omega)
    have PUT : Calls Try.prog 10 #[.pointer (some ⟨b, 0, none⟩), .int .u32 8, .int .i64 0, .int .u32 1, .slice (some ⟨g, 0, none⟩) x0.length cap] w3 fun e w' => e = .returned (.tuple #[]) ∧ Has (fun x => x = b ∨ g < x) b 3 1 (putL 3 [] (8, 0) 1 x0) 0 0 w' ∧ Mod (fun x => x = b ∨ g < x) w3 w' :=
      put_has (8, 0) 1 (some ⟨g, 0, none⟩) cap x0 HP3 up3 (by decide) (fun w' hm => (Kd.R_reads' (R25_at HO.out (hm.keep g g2 (by omega)))).2.2) (Kd.R_reads' HO.out).2.1 (by omega) (fun h => by cases h)
    rw [b1] at PUT
    refine PUT.mono ?_
    clear PUT
    rintro e w4 ⟨rfl, h4, m4⟩
    have HO4 := R25_at HO.out (m4.keep g g2 (by omega))
    have N4 : w4.heap[W.heap.size]? = some (.cells (ncs x1) 25 (0, 0)) := (m4.keep _ (by have := blk_lt (blk_below N2.out HB3.out); omega) (by omega)).trans (blk_below N2.out HB3.out)
    have B4 := m4.below (below_step B2.out HB3.out) (fun x hx => by omega) (by have := B2.out.size; have := HB3.out.size; omega)
    have n0 : w4.cell? ⟨W.heap.size, 0, none⟩ = some (.int .i64 x1.f0) := (blk_cell N4 0).trans rfl
    have n1 : w4.cell? ⟨W.heap.size, 1, none⟩ = some (.int .i64 x1.f1) := (blk_cell N4 1).trans rfl
    have n2 : w4.cell? ⟨W.heap.size, 2, none⟩ = some (.int .i64 x1.f2) := (blk_cell N4 2).trans rfl
    have n3 : w4.cell? ⟨W.heap.size, 3, none⟩ = some (.int .i64 x1.f3) := (blk_cell N4 3).trans rfl
    have n4 : w4.cell? ⟨W.heap.size, 4, none⟩ = some (.int .u32 x1.f4) := (blk_cell N4 4).trans rfl
    obtain ⟨g', cap', r0, r1, r2, r3, r4, e', _, _, ⟨d0, d1, d2, d3, d4⟩, ⟨f0, f1, f2, f3, f4⟩⟩ := R25_some HO4 hn1
    injection e' with e1 e2 e3
    injection e1 with e1
    injection e1 with e1
    subst e1
    have M5 := Mod.five (w := w4) (g := g) (.int .i64 x1.f0) (.int .i64 x1.f1) (.int .i64 x1.f2) (.int .i64 x1.f3) (.int .u32 x1.f4)
    have H5 := Lib.hid (h4.mod M5 (fun x hx _ => by omega))
    have N5 := Lib.hid ((M5.keep _ (blk_lt N4) (by omega)).trans N4)
    have B5 := Lib.hid (M5.below B4 (fun x hx => by omega) B4.size)
    have Z5 := Lib.hid (Nat.lt_of_lt_of_le g2 (Nat.le_trans m4.size M5.size))
    clear HO4 N4 B4 m4 h4 HP3 up3 M5 e2 e3
    go_wp2_with fail
    obtain ⟨w5, hw5⟩ : ∃ w5, w5 = (((((w4.setCell ⟨g, 0, none⟩ (.int .i64 x1.f0)).setCell ⟨g, 1, none⟩ (.int .i64 x1.f1)).setCell ⟨g, 2, none⟩ (.int .i64 x1.f2)).setCell ⟨g, 3, none⟩ (.int .i64 x1.f3)).setCell ⟨g, 4, none⟩ (.int .u32 x1.f4)) := ⟨_, rfl⟩
    rw [← hw5] at H5 N5 B5 Z5 ⊢
    clear hw5 n0 n1 n2 n3 n4 d0 d1 d2 d3 d4 f0 f1 f2 f3 f4
    have GET : Calls Try.prog 11 #[.pointer (some ⟨b, 0, none⟩), .int .u32 8, .int .i64 0, .int .u32 1] w5 fun e w' => ∃ v s, e = .returned (.tuple #[v, .bool true]) ∧ w5.heap.size ≤ s ∧ s ≤ w'.heap.size ∧ Kd.R k25 25 w' s (fun _ => True) v x0 ∧ Has (fun x => (x = b ∨ g < x) ∧ x < s) b 3 1 [((8, 0), 1, x0)] (0 + 1) 0 w' ∧ Mod (fun x => x = b ∨ g < x) w5 w' :=
      get_hit_has (8, 0) 1 0 (8, 0) x0 (b2 x0) rfl (by omega) H5.out (fun x hx => .inr (by have := Z5.out; omega)) (by simp) (by decide) (by decide) (by decide) (by decide)
    refine GET.mono ?_
    clear GET
    rintro e w6 ⟨v, s, rfl, s0, s1, hv, h6, m6⟩
    obtain ⟨g6, cap6, t0, t1, t2, t3, t4, rfl, q1, q2, _, _⟩ := R25_some hv hn1
    have H6 := Lib.hid h6
    have HV6 := Lib.hid hv
    have N6 := Lib.hid ((m6.keep _ (blk_lt N5.out) (by omega)).trans N5.out)
    have B6 := Lib.hid (m6.below B5.out (fun x hx => by omega) B5.out.size)
    have S6 := Lib.hid (And.intro s0 (And.intro s1 (And.intro q1 q2)))
    clear h6 hv m6 s0 s1 q1 q2
    go_wp2_with fail
    have NOD := tincturelaw25_nodes.calls (x0.length + 1 + 0) A0 c0 x0 (refs x0) w6 (Kd.C_below R0.out B6.out) L0.out (nodes_f x0 (by omega) 0)
    refine NOD.mono ?_
    clear NOD
    rintro e w7 ⟨v7, rfl, hr7, hb7⟩
    obtain ⟨A7, c7, rfl, l7, C7⟩ := Kd.R_reads hr7
    have EQ := tincturelaw25_equal.calls (x0.length + 1 + 0) (some ⟨g6, 0, none⟩) cap6 x0 A7 c7 (refs x0) true w7 (Kd.C_below (Kd.R_reads' HV6.out).2.2 hb7) (Kd.R_reads' HV6.out).2.1 C7 l7 (equal_f x0 (by omega) 0)
    have B7 := Lib.hid (below_step B6.out hb7)
    have HB7 := Lib.hid hb7
    clear hr7 hb7 l7 C7
    go_wp2_with fail
    refine EQ.mono ?_
    clear EQ
    rintro e w8 ⟨rfl, hb8⟩
    have HB8 := Lib.hid (below_step HB7.out hb8)
    clear hb8
    have N8 := blk_below N6.out HB8.out
    have B8 := below_step B6.out HB8.out
    have n0 : w8.cell? ⟨W.heap.size, 0, none⟩ = some (.int .i64 x1.f0) := (blk_cell N8 0).trans rfl
    have n1 : w8.cell? ⟨W.heap.size, 1, none⟩ = some (.int .i64 x1.f1) := (blk_cell N8 1).trans rfl
    have n2 : w8.cell? ⟨W.heap.size, 2, none⟩ = some (.int .i64 x1.f2) := (blk_cell N8 2).trans rfl
    have n3 : w8.cell? ⟨W.heap.size, 3, none⟩ = some (.int .i64 x1.f3) := (blk_cell N8 3).trans rfl
    have n4 : w8.cell? ⟨W.heap.size, 4, none⟩ = some (.int .u32 x1.f4) := (blk_cell N8 4).trans rfl
    obtain ⟨g', cap', r0', r1', r2', r3', r4', e', _, _, ⟨d0, d1, d2, d3, d4⟩, ⟨f0, f1, f2, f3, f4⟩⟩ := R25_some (Kd.R_below HV6.out HB8.out) hn1
    injection e' with e1 e2 e3
    injection e1 with e1
    injection e1 with e1
    subst e1
    have M9 := Mod.five (w := w8) (g := g6) (.int .i64 x1.f0) (.int .i64 x1.f1) (.int .i64 x1.f2) (.int .i64 x1.f3) (.int .u32 x1.f4)
    have H9 := Lib.hid ((H6.out.below HB8.out).mod M9 (fun x hx _ => by have := S6.out.2.2.1; omega))
    have hs9 := S6.out
    have hz6 := B6.out.size
    have B9 := Lib.hid (M9.below B8 (fun x hx => by have := B5.out.size; have := Z5.out; omega) B8.size)
    clear M9 B8 N8 e2 e3 hs9 hz6
    go_wp2_with fail
    obtain ⟨w9, hw9⟩ : ∃ w9, w9 = (((((w8.setCell ⟨g6, 0, none⟩ (.int .i64 x1.f0)).setCell ⟨g6, 1, none⟩ (.int .i64 x1.f1)).setCell ⟨g6, 2, none⟩ (.int .i64 x1.f2)).setCell ⟨g6, 3, none⟩ (.int .i64 x1.f3)).setCell ⟨g6, 4, none⟩ (.int .u32 x1.f4)) := ⟨_, rfl⟩
    rw [← hw9] at H9 B9 ⊢
    clear hw9 n0 n1 n2 n3 n4 d0 d1 d2 d3 d4 f0 f1 f2 f3 f4
    have GET : Calls Try.prog 11 #[.pointer (some ⟨b, 0, none⟩), .int .u32 8, .int .i64 0, .int .u32 1] w9 fun e w' => ∃ v s', e = .returned (.tuple #[v, .bool true]) ∧ w9.heap.size ≤ s' ∧ s' ≤ w'.heap.size ∧ Kd.R k25 25 w' s' (fun _ => True) v x0 ∧ Has (fun x => (((x = b ∨ g < x) ∧ x < s) ∨ w9.heap.size ≤ x) ∧ x < s') b 3 1 [((8, 0), 1, x0)] (0 + 1 + 1) 0 w' ∧ Mod (fun x => ((x = b ∨ g < x) ∧ x < s) ∨ w9.heap.size ≤ x) w9 w' :=
      get_hit_has (8, 0) 1 0 (8, 0) x0 (b2 x0) rfl (by omega) (H9.out.mono (fun x hx => .inl hx)) (fun x hx => .inr hx) (by simp) (by decide) (by decide) (by decide) (by decide)
    refine GET.mono ?_
    clear GET
    rintro e w10 ⟨v, s', rfl, s0, s1, hv, h10, m10⟩
    obtain ⟨g10, cap10, t0', t1', t2', t3', t4', rfl, q1, q2, _, _⟩ := R25_some hv hn1
    have H10 := Lib.hid h10
    have HV10 := Lib.hid hv
    have B10 := Lib.hid (m10.below B9.out (fun x hx => by have := B9.out.size; omega) B9.out.size)
    clear h10 hv m10 s0 s1 q1 q2
    go_wp2_with fail
    have NOD := tincturelaw25_nodes.calls (x0.length + 1 + 0) A0 c0 x0 (refs x0) w10 (Kd.C_below R0.out B10.out) L0.out (nodes_f x0 (by omega) 0)
    refine NOD.mono ?_
    clear NOD
    rintro e w11 ⟨v11, rfl, hr11, hb11⟩
    obtain ⟨A11, c11, rfl, l11, C11⟩ := Kd.R_reads hr11
    have EQ := tincturelaw25_equal.calls (x0.length + 1 + 0) (some ⟨g10, 0, none⟩) cap10 x0 A11 c11 (refs x0) true w11 (Kd.C_below (Kd.R_reads' HV10.out).2.2 hb11) (Kd.R_reads' HV10.out).2.1 C11 l11 (equal_f x0 (by omega) 0)
    have HB11 := Lib.hid hb11
    clear hr11 hb11 l11 C11
    go_wp2_with fail
    refine EQ.mono ?_
    clear EQ
    rintro e w12 ⟨rfl, hb12⟩
    have HB12 := Lib.hid (below_step HB11.out hb12)
    clear hb12
    have HI := hits_has (H10.out.below HB12.out)
    go_wp2_with fail
    refine HI.mono ?_
    clear HI
    rintro e w13 ⟨rfl, rfl⟩
    go_wp2
    go_ret
    exact ⟨rfl, below_step B10.out HB12.out⟩
end Go.Proofs.Ytnmfmcjgjjanfaa.CacheOwn
