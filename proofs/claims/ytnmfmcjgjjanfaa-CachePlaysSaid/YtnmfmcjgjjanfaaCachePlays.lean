/- CachePlays: what is found, what goes, how many are kept, is as the document says. -/
import Derived.Test.YtnmfmcjgjjanfaaTwo
import Derived.Test.YtnmfmcjgjjanfaaPlainN
import Derived.Test.YtnmfmcjgjjanfaaOpenT
import Derived.Deep.QuietTactic
import Derived.BigQuiet
namespace Go.Proofs.Ytnmfmcjgjjanfaa.CachePlays
open Go Go.RowKit Go.Proofs.YtnmfmcjgjjanfaaW.PrintWords Go.Proofs.YtnmfmcjgjjanfaaW.PrintLast Go.Proofs.YtnmfmcjgjjanfaaW.PrintMore Go.Proofs.Ytnmfmcjgjjanfaa.Pr Go.Proofs.Ytnmfmcjgjjanfaa.Lits Go.Proofs.Ytnmfmcjgjjanfaa.Cache Go.Proofs.Ytnmfmcjgjjanfaa.Open Go.Proofs.Ytnmfmcjgjjanfaa.OpenT
set_option linter.unusedVariables false
set_option linter.unusedSimpArgs false
abbrev ActT : Type := Int × Int × Int × Int × List S25
abbrev kA : Kd ActT := Kd.pair (Kd.int .i64) (Kd.pair (Kd.int .i64) (Kd.pair (Kd.int .u32) (Kd.pair (Kd.int .u32) (Kd.slice 25 k25))))
theorem act_at {w : World} {A : Option Addr} {n : Nat} {xs : List ActT} (h : Kd.C kA w A n xs) (q : Nat) (hq : q < n) :
    ∃ ad AL cL x, A = some ad ∧ xs[q]? = some x ∧ w.cell? (ad.add (q * 5)) = some (.int .i64 x.1) ∧ w.cell? ⟨(ad.add (q * 5)).block, (ad.add (q * 5)).off + 1, none⟩ = some (.int .i64 x.2.1) ∧ w.cell? ⟨(ad.add (q * 5)).block, (ad.add (q * 5)).off + 2, none⟩ = some (.int .u32 x.2.2.1) ∧
      w.cell? ⟨(ad.add (q * 5)).block, (ad.add (q * 5)).off + 3, none⟩ = some (.int .u32 x.2.2.2.1) ∧ w.cell? ⟨(ad.add (q * 5)).block, (ad.add (q * 5)).off + 4, none⟩ = some (.slice AL x.2.2.2.2.length cL) ∧ x.2.2.2.2.length ≤ cL ∧ Kd.C k25 w AL x.2.2.2.2.length x.2.2.2.2 := by
  obtain ⟨hl, _, hr⟩ := h
  obtain ⟨ad, rfl, hc0⟩ := hr (by omega)
  have hz : xs[q]? = some xs[q] := List.getElem?_eq_getElem (by omega)
  obtain ⟨cs, h1, h2, h3⟩ := hc0 q _ hz
  obtain ⟨_, _, rfl, rfl, ⟨_, _, rfl, rfl, ⟨_, _, rfl, rfl, ⟨_, _, rfl, rfl, ⟨AL, cL, rfl, l3, g3⟩⟩⟩⟩⟩ := h2
  have hc : ∀ j u, [Value.int .i64 xs[q].1, .int .i64 xs[q].2.1, .int .u32 xs[q].2.2.1, .int .u32 xs[q].2.2.2.1, .slice AL xs[q].2.2.2.2.length cL][j]? = some u → w.cell? (ad.add (q * 5 + j)) = some u := h3
  exact ⟨ad, AL, cL, _, rfl, hz, hc 0 _ rfl, by rw [← add_field _ _ 1 (by omega)]; exact hc 1 _ rfl, by rw [← add_field _ _ 2 (by omega)]; exact hc 2 _ rfl, by rw [← add_field _ _ 3 (by omega)]; exact hc 3 _ rfl, by rw [← add_field _ _ 4 (by omega)]; exact hc 4 _ rfl, l3, g3⟩
theorem act_cells {w : World} {g : Nat} {v0 v1 v2 v3 v4 : Value} (h : w.heap[g]? = some (.cells #[v0, v1, v2, v3, v4] 51 (0, 0))) : w.cell? ⟨g, 1, none⟩ = some v1 ∧ w.cell? ⟨g, 2, none⟩ = some v2 ∧ w.cell? ⟨g, 3, none⟩ = some v3 ∧ w.cell? ⟨g, 4, none⟩ = some v4 :=
  ⟨(blk_cell h 1).trans rfl, (blk_cell h 2).trans rfl, (blk_cell h 3).trans rfl, (blk_cell h 4).trans rfl⟩
/-- The nodes that have been made stand where their blocks stand. -/
theorem nodes_row {w : World} {s : Nat} {v : Value} {l : List S25} (hr : Kd.R k83 83 w s (fun _ => True) v (refs l)) : ∃ A c, v = .slice A l.length c ∧ l.length ≤ c ∧ ∀ w', (∀ x, s ≤ x → x < w.heap.size → w'.heap[x]? = w.heap[x]?) → Kd.C k83 w' A l.length (refs l) := by
  obtain ⟨A, c, rfl, l1, l2⟩ := Kd.R_reads hr
  have e : (refs l).length = l.length := by simp [refs]
  refine ⟨A, c, by rw [e], by rw [← e]; exact l1, fun w' hk => ?_⟩
  have h2 := Kd.R_step (Kd.R_bound hr) (w1 := w') (fun x hx hl => hk x hx.2.1 hl)
  rw [← e]
  exact (Kd.R_reads' h2).2.2
theorem refs_len (l : List S25) : (refs l).length = l.length := by simp [refs]
/-- What the loop holds behind q acts. -/
def St (W : World) (b c : Nat) (most : Int) (q : Nat) (w : World) : Prop := ∃ ms h m, Tidy most ms ∧ 0 ≤ h ∧ h ≤ (q : Int) ∧ 0 ≤ m ∧ m ≤ (q : Int) ∧ Two W (fun x => x < W.heap.size) b c most ms ms h m h m w
set_option maxRecDepth 100000 in
set_option maxHeartbeats 2000000 in
theorem walk (W : World) (x0 : Int) (wx0 : (Lit.int .i64 x0).wf = true) (x1 : List ((Int × Int × Int × Int × List (S25)))) (wx1 : wf45 x1) (A1 : Option Addr) (c1 : Nat) (l1_0 : x1.length ≤ c1) (r1_0 : Kd.C (Kd.pair (Kd.int .i64) (Kd.pair (Kd.int .i64) (Kd.pair (Kd.int .u32) (Kd.pair (Kd.int .u32) (Kd.slice 25 k25))))) W A1 x1.length x1) :
    Calls Try.prog 7 #[.int .i64 x0, .slice A1 x1.length c1] W fun e w' => e = .returned (.bool true) ∧ Below W.heap.size W w' := by
  have R1 := Lib.hid r1_0
  clear r1_0 l1_0 wx1 wx0
  have hu27 := Try.underlying27
  go_enter Try.func7, Try.ntmps7
  go_wp2_with fail
  refine (awake _).mono ?_
  rintro e w1 ⟨rfl, h1⟩
  have B1 := Lib.hid h1
  clear h1
  by_cases g1 : x0 < 1
  · have NB := new_bad x0 w1 (.inl g1)
    go_wp2_with fail
    refine NB.mono ?_
    clear NB
    rintro e w2 ⟨rfl, rfl⟩
    have hB := B1.out
    go_wp2
    go_ret
    exact ⟨rfl, hB⟩
  by_cases g2 : 256 < x0
  · have NB := new_bad x0 w1 (.inr g2)
    go_wp2_with fail
    refine NB.mono ?_
    clear NB
    rintro e w2 ⟨rfl, rfl⟩
    have hB := B1.out
    go_wp2
    go_ret
    exact ⟨rfl, hB⟩
  have g3 : 1 ≤ x0 := by omega
  have g4 : x0 ≤ 256 := by omega
  go_wp2_with fail
  refine (new_ok x0 _ g3 g4).mono ?_
  rintro e w2 ⟨rfl, h2⟩
  obtain ⟨b, hb⟩ : ∃ b, b = w1.heap.size := ⟨_, rfl⟩
  have H2 : Hid (Has (fun x => x = b) b x0 0 [] 0 0 w2 ∧ Below W.heap.size W w2 ∧ W.heap.size ≤ b ∧ b < w2.heap.size) := by
    have b2 : Below w1.heap.size w1 w2 := by rw [h2]; exact (Below.refl _ _).alloc (Nat.le_refl _) _
    refine Lib.hid ⟨?_, below_step B1.out b2, by rw [hb]; exact B1.out.size, by rw [hb, h2]; simp⟩
    rw [hb, h2]
    exact Has.new x0 w1 rfl
  rw [← hb]
  clear h2 hb B1 g1 g2
  by_cases g5 : 100 < x1.length
  · have hB := H2.out.2.1
    go_wp2
    go_ret
    exact ⟨rfl, hB⟩
  have m4 : x1.length ≤ 100 := by omega
  clear g5
  go_wp2
  obtain ⟨w3, hw3⟩ : ∃ w3, w3 = w2.alloc (.cells #[.int .i64 x0, .slice none 0 0, .int .i64 0, .int .i64 0] 49) := ⟨_, rfl⟩
  obtain ⟨c, hc⟩ : ∃ c, c = w2.heap.size := ⟨_, rfl⟩
  have ST : Hid (St W b c x0 0 w3) := by
    obtain ⟨a1, a2, a3, a4⟩ := H2.out
    have b3 : Below w2.heap.size w2 w3 := by rw [hw3]; exact (Below.refl _ _).alloc (Nat.le_refl _) _
    have hz : w3.heap.size = w2.heap.size + 1 := by rw [hw3]; simp
    have hcb : w3.heap[c]? = some (rb x0 (.slice none 0 0) 0 0) := by rw [hc, hw3]; exact blk_new w2 _
    have hWs := a2.size
    refine Lib.hid ⟨[], 0, 0, Tidy.nil (by omega), by omega, by omega, by omega, by omega, fun x hx => hx, fun x hx => by omega, below_step a2 b3, fun x => x = b, fun x => x = c, 0, fun x h1 h2 => by omega, fun x hx => by omega, fun x hx => by omega, a1.below b3, rfl, _, hcb, Kd.R_nil _ _ _ _ _⟩
  rw [← hw3, ← hc]
  clear hw3 hc H2
  go_loopw [8] (fun i wr => ∃ q : Nat, q ≤ x1.length ∧ i = .int .i64 q ∧ Hid (St W b c x0 q wr)) (fun i _ => x1.length - (intOf i).toNat)
  case atStart => exact ⟨0, Nat.zero_le _, rfl, ST⟩
  case round =>
    obtain ⟨q, hq, rfl, SQ⟩ := hrel
    clear ST
    obtain ⟨ms, h, m, T1, t1, t2, t3, t4, HT⟩ := id SQ.out
    have TY := Lib.hid T1
    have H := Lib.hid HT
    clear T1 HT SQ
    by_cases hlt : q < x1.length
    · obtain ⟨ad, AL, cL, x, rfl, hx, k0, k1, k2, k3, k4, lL, rL⟩ := act_at (Kd.C_below R1.out H.out.low) q hlt
      obtain ⟨op, vv, pc, gen, l⟩ := x
      have RL : Hid (Kd.C k25 W AL l.length l ∧ l.length ≤ cL) := by
        obtain ⟨ad', AL', cL', x', e', hx', k0', k1', k2', k3', k4', lL', rL'⟩ := act_at R1.out q hlt
        cases e'
        have e2 := Option.some.inj (hx.symm.trans hx')
        rw [← e2] at k4' lL' rL'
        have e3 := (pw_cell_below H.out.low k4').symm.trans k4
        injection e3 with e3
        injection e3 with y1 y2 y3
        rw [← y1]
        exact Lib.hid ⟨rL', lL⟩
      dsimp only at k0 k1 k2 k3 k4
      clear hx lL rL
      by_cases g6 : 10 < l.length
      · have hB := below_step H.out.low (below_alloc (Below.refl wr.heap.size wr) (.cells #[.int .i64 op, .int .i64 vv, .int .u32 pc, .int .u32 gen, .slice AL l.length cL] 51))
        go_wp2
        go_ret
        exact ⟨rfl, hB⟩
      · have g7 : l.length ≤ 10 := by omega
        have hgz : IntKind.i64.wrap 0 = 0 := rfl
        obtain ⟨w4, hw4⟩ : ∃ w4, w4 = wr.alloc (.cells #[.int .i64 op, .int .i64 vv, .int .u32 pc, .int .u32 gen, .slice AL l.length cL] 51) := ⟨_, rfl⟩
        obtain ⟨g, hg⟩ : ∃ g, g = wr.heap.size := ⟨_, rfl⟩
        have H4 : Hid (Two W (fun x => x < W.heap.size ∨ (wr.heap.size ≤ x ∧ x < w4.heap.size)) b c x0 ms ms h m h m w4) := Lib.hid (H.out.next (by rw [hw4]; exact (Below.refl _ _).alloc (Nat.le_refl _) _))
        have N4 : Hid (w4.heap[g]? = some (.cells #[.int .i64 op, .int .i64 vv, .int .u32 pc, .int .u32 gen, .slice AL l.length cL] 51 (0, 0))) := Lib.hid (by rw [hg, hw4]; exact blk_new wr _)
        have G4 : Hid (wr.heap.size ≤ g ∧ g < w4.heap.size) := Lib.hid ⟨by omega, by rw [hg, hw4]; simp⟩
        clear g6 H
        by_cases o0 : op = 0
        · subst o0
          go_wp2_with fail
          rw [← hw4, ← hg]
          have C := two_put1 (pc, vv) gen AL cL l H4.out (by have := TY.out.1; omega) RL.out.1 RL.out.2 g7
          clear hw4 hg
          refine C.mono ?_
          clear C
          rintro e w5 ⟨rfl, p1, p2⟩
          have HN := Aside0.mk (p1.below (below_drew (Below.refl _ _)))
          have HG : Aside0 (w5.drew.heap[g]? = some (.cells #[.int .i64 0, .int .i64 vv, .int .u32 pc, .int .u32 gen, .slice AL l.length cL] 51 (0, 0))) := ⟨(p2.keep g G4.out.2 (fun h => h (.inr G4.out))).trans N4.out⟩
          have HGX : Hid (wr.heap.size ≤ g ∧ g < w4.heap.size ∧ w4.heap.size ≤ w5.heap.size) := Lib.hid ⟨G4.out.1, G4.out.2, p2.size⟩
          clear p1 p2 H4 N4 G4
          go_wp2
          go_region_held3 (fun w' => Aside0 (w'.heap[g]? = some (.cells #[.int .i64 0, .int .i64 vv, .int .u32 pc, .int .u32 gen, .slice AL l.length cL] 51 (0, 0))) ∧ w'.cell? ⟨g, 1, none⟩ = some (.int .i64 vv) ∧ w'.cell? ⟨g, 2, none⟩ = some (.int .u32 pc) ∧ w'.cell? ⟨g, 3, none⟩ = some (.int .u32 gen) ∧ w'.cell? ⟨g, 4, none⟩ = some (.slice AL l.length cL))
            (exact ⟨HG, act_cells HG.out⟩)
            (first
              | (go_at_call 13; refine (tincturelaw25_nodes.calls (l.length + 1 + 0) AL cL l (refs l) _ (Kd.C_below RL.out.1 HN.out.low) RL.out.2 (nodes_f l (by omega) 0)).mono ?_; rintro e w6 ⟨v6, rfl, hr, hb⟩; obtain ⟨A6, c6, rfl, l6, HR6⟩ := nodes_row hr; have HN2 := Aside0.mk (HN.out.next hb); have HG2 := Aside0.mk (blk_below HG.out hb); clear HN HG hr hb; have HN := HN2; have HG := HG2; clear HN2 HG2)
              | (go_at_call 19; refine (two_put2 (pc, vv) gen A6 c6 l HN.out (by have := TY.out.1; omega) (fun w' hk => HR6 w' (fun x h1 h2 => hk.keep x h2 (fun h => h (.inr ⟨h1, h2⟩)))) g7).mono ?_; rintro e w7 ⟨rfl, p1, p2⟩; have HN2 := Aside0.mk p1; have HG2 := Aside0.mk ((p2.keep g (blk_lt HG.out) (fun h => h (.inl (.inr ⟨HGX.out.1, HGX.out.2.1⟩)))).trans HG.out); clear HN HG p1 p2 HR6; have HN := HN2; have HG := HG2; clear HN2 HG2))
          obtain ⟨ms5, hms5⟩ : ∃ ms5, ms5 = putL x0 ms (pc, vv) gen l := ⟨_, rfl⟩
          have TYN : Hid (Tidy x0 ms5) := Lib.hid (by rw [hms5]; exact TY.out.put (pc, vv) gen l g7 g3)
          have TW : Hid (Two W (fun x => x < W.heap.size) b c x0 ms5 ms5 h m h m w7) := Lib.hid (by rw [hms5]; exact HN.out.less (fun x hx => HN.out.1 x hx) (fun x hx => hx))
          clear HN HG hms5 TY HGX

          have hle : ¬ x0 < (ms5.length : Int) := by have := TYN.out.1; omega
          have HN := Aside0.mk (TW.out.below (below_drew (Below.refl _ _)))
          clear TW
          go_wp2
          go_region_held3 (fun w' => Aside0 (Two W (fun x => x < W.heap.size) b c x0 ms5 ms5 (h) (m) (h) (m) w') ∧ w'.cell? ⟨c, 2, none⟩ = some (.int .i64 (h)) ∧ w'.cell? ⟨c, 3, none⟩ = some (.int .i64 (m)))
            (exact ⟨HN, two_cells HN.out⟩)
            (first
              | (go_at_call 15; refine (two_len1 HN.out).mono ?_; rintro e w' ⟨rfl, rfl⟩)
              | (go_at_call 23; refine (two_len2 HN.out).mono ?_; rintro e w' ⟨rfl, rfl⟩)
              | (go_at_call 14; refine (two_hits1 HN.out).mono ?_; rintro e w' ⟨rfl, rfl⟩)
              | (go_at_call 18; refine (two_misses1 HN.out).mono ?_; rintro e w' ⟨rfl, rfl⟩))
          have SN := Lib.hid (show St W b c x0 (q + 1) _ from ⟨ms5, h, m, TYN.out, by omega, by omega, by omega, by omega, HN.out⟩)
          clear HN
          go_wp2
          go_roundw
          case rel => exact ⟨q + 1, by omega, by go_num, SN⟩
          case measure => simp [intOf]; omega
        by_cases o1 : op = 1
        · subst o1
          obtain ⟨⟨ms5, ys, ok⟩, hf⟩ : ∃ r, r = found ms (pc, vv) gen := ⟨_, rfl⟩
          have G1 := two_get1 (pc, vv) gen H4.out TY.out g4 t1 (by omega) t3 (by omega)
          have TF := TY.out.found (pc, vv) gen
          rw [← hf] at G1 TF
          dsimp only at G1 TF
          go_wp2_with fail
          rw [← hw4, ← hg]
          clear hw4 hg
          refine G1.mono ?_
          clear G1
          rintro e w5 ⟨A5, cc5, X5, rfl, l5, hX5, hC5, p1, p2⟩
          have N5 : Hid (w5.heap[g]? = some (.cells #[.int .i64 1, .int .i64 vv, .int .u32 pc, .int .u32 gen, .slice AL l.length cL] 51 (0, 0))) := Lib.hid ((p2.keep g G4.out.2 (fun h => h (.inr G4.out))).trans N4.out)
          have HXg : X5 g := hX5 g (.inr G4.out)
          obtain ⟨e1, e2, e3, e4⟩ := act_cells N5.out
          have G2 := two_get2 (pc, vv) gen p1 (by have := TY.out.1; omega) t1 (by omega) t3 (by omega)
          rw [← hf] at G2
          dsimp only at G2
          have HC5 := Lib.hid hC5
          have HGX := Lib.hid HXg
          clear p1 p2 H4 N4 G4 hC5 hX5 HXg
          go_wp2_with fail
          refine G2.mono ?_
          clear G2
          rintro e w6 ⟨⟨A6, cc6, rfl, l6, C6⟩, p1, p2⟩
          have C5 := HC5.out w6 p2
          have EQ := tincturelaw25_equal.calls (ys.length + 1 + 0) A5 cc5 ys A6 cc6 (refs ys) true w6 C5 l5 (by rw [refs_len]; exact C6) (by rw [refs_len]; exact l6) (equal_f ys (by omega) 0)
          rw [refs_len] at EQ
          have H6 := Lib.hid p1
          have TYN : Hid (Tidy x0 ms5) := Lib.hid TF.1
          clear p1 p2 C5 C6 HC5 TF e1 e2 e3 e4 N5 HGX hf TY
          go_wp2_with fail
          refine EQ.mono ?_
          clear EQ
          rintro e w7 ⟨rfl, hb7⟩
          obtain ⟨h', hh'⟩ : ∃ h', h' = h + hitsOf ok := ⟨_, rfl⟩
          obtain ⟨m', hm'⟩ : ∃ m', m' = m + missOf ok := ⟨_, rfl⟩
          have bnd : 0 ≤ h' ∧ h' ≤ (q : Int) + 1 ∧ 0 ≤ m' ∧ m' ≤ (q : Int) + 1 := by
            rw [hh', hm']
            cases ok <;> simp [hitsOf, missOf] <;> omega
          have TW : Hid (Two W (fun x => x < W.heap.size) b c x0 ms5 ms5 h' m' h' m' w7) := Lib.hid (by rw [hh', hm']; exact (H6.out.below hb7).less (fun x hx => H6.out.1 x hx) (fun x hx => hx))
          clear H6 hb7 hh' hm'

          have hle : ¬ x0 < (ms5.length : Int) := by have := TYN.out.1; omega
          have HN := Aside0.mk (TW.out.below (below_drew (Below.refl _ _)))
          clear TW
          go_wp2
          go_region_held3 (fun w' => Aside0 (Two W (fun x => x < W.heap.size) b c x0 ms5 ms5 (h') (m') (h') (m') w') ∧ w'.cell? ⟨c, 2, none⟩ = some (.int .i64 (h')) ∧ w'.cell? ⟨c, 3, none⟩ = some (.int .i64 (m')))
            (exact ⟨HN, two_cells HN.out⟩)
            (first
              | (go_at_call 15; refine (two_len1 HN.out).mono ?_; rintro e w' ⟨rfl, rfl⟩)
              | (go_at_call 23; refine (two_len2 HN.out).mono ?_; rintro e w' ⟨rfl, rfl⟩)
              | (go_at_call 14; refine (two_hits1 HN.out).mono ?_; rintro e w' ⟨rfl, rfl⟩)
              | (go_at_call 18; refine (two_misses1 HN.out).mono ?_; rintro e w' ⟨rfl, rfl⟩))
          have SN := Lib.hid (show St W b c x0 (q + 1) _ from ⟨ms5, h', m', TYN.out, by omega, by omega, by omega, by omega, HN.out⟩)
          clear HN
          go_wp2
          go_roundw
          case rel => exact ⟨q + 1, by omega, by go_num, SN⟩
          case measure => simp [intOf]; omega
        by_cases o2 : op = 2
        · subst o2
          go_wp2_with fail
          rw [← hw4, ← hg]
          have HN := Aside0.mk (H4.out.below (below_drew (Below.refl _ _)))
          have HG : Aside0 (w4.drew.heap[g]? = some (.cells #[.int .i64 2, .int .i64 vv, .int .u32 pc, .int .u32 gen, .slice AL l.length cL] 51 (0, 0))) := ⟨N4.out⟩
          have HGX := Lib.hid G4.out
          clear hw4 hg H4 N4 G4
          go_region_held3 (fun w' => Aside0 (w'.heap[g]? = some (.cells #[.int .i64 2, .int .i64 vv, .int .u32 pc, .int .u32 gen, .slice AL l.length cL] 51 (0, 0))) ∧ w'.cell? ⟨g, 1, none⟩ = some (.int .i64 vv) ∧ w'.cell? ⟨g, 2, none⟩ = some (.int .u32 pc) ∧ w'.cell? ⟨g, 3, none⟩ = some (.int .u32 gen) ∧ w'.cell? ⟨g, 4, none⟩ = some (.slice AL l.length cL))
            (exact ⟨HG, act_cells HG.out⟩)
            (first
              | (go_at_call 16; refine (two_drop1 pc HN.out (by have := TY.out.1; omega)).mono ?_; rintro e w6 ⟨rfl, p1, p2⟩; have HN2 := Aside0.mk p1; have HG2 := Aside0.mk ((p2.keep g (blk_lt HG.out) (fun h => h (.inr HGX.out))).trans HG.out); clear HN HG p1 p2; have HN := HN2; have HG := HG2; clear HN2 HG2)
              | (go_at_call 21; refine (two_drop2 pc HN.out (by have := TY.out.1; omega)).mono ?_; rintro e w7 ⟨rfl, p1, p2⟩; have HN2 := Aside0.mk p1; have HG2 := Aside0.mk ((p2.keep g (blk_lt HG.out) (fun h => h (.inr HGX.out))).trans HG.out); clear HN HG p1 p2; have HN := HN2; have HG := HG2; clear HN2 HG2))
          obtain ⟨ms5, hms5⟩ : ∃ ms5, ms5 = rest pc ms := ⟨_, rfl⟩
          have TYN : Hid (Tidy x0 ms5) := Lib.hid (by rw [hms5]; exact TY.out.rest pc)
          have TW : Hid (Two W (fun x => x < W.heap.size) b c x0 ms5 ms5 h m h m w7) := Lib.hid (by rw [hms5]; exact HN.out.less (fun x hx => HN.out.1 x hx) (fun x hx => hx))
          clear HN HG hms5 TY HGX

          have hle : ¬ x0 < (ms5.length : Int) := by have := TYN.out.1; omega
          have HN := Aside0.mk (TW.out.below (below_drew (Below.refl _ _)))
          clear TW
          go_wp2
          go_region_held3 (fun w' => Aside0 (Two W (fun x => x < W.heap.size) b c x0 ms5 ms5 (h) (m) (h) (m) w') ∧ w'.cell? ⟨c, 2, none⟩ = some (.int .i64 (h)) ∧ w'.cell? ⟨c, 3, none⟩ = some (.int .i64 (m)))
            (exact ⟨HN, two_cells HN.out⟩)
            (first
              | (go_at_call 15; refine (two_len1 HN.out).mono ?_; rintro e w' ⟨rfl, rfl⟩)
              | (go_at_call 23; refine (two_len2 HN.out).mono ?_; rintro e w' ⟨rfl, rfl⟩)
              | (go_at_call 14; refine (two_hits1 HN.out).mono ?_; rintro e w' ⟨rfl, rfl⟩)
              | (go_at_call 18; refine (two_misses1 HN.out).mono ?_; rintro e w' ⟨rfl, rfl⟩))
          have SN := Lib.hid (show St W b c x0 (q + 1) _ from ⟨ms5, h, m, TYN.out, by omega, by omega, by omega, by omega, HN.out⟩)
          clear HN
          go_wp2
          go_roundw
          case rel => exact ⟨q + 1, by omega, by go_num, SN⟩
          case measure => simp [intOf]; omega
        · skip
          go_wp2_with fail
          rw [← hw4, ← hg]
          have C := two_clear1 H4.out
          clear hw4 hg H4 N4 G4
          refine C.mono ?_
          clear C
          rintro e w5 ⟨rfl, p1, p2⟩
          have C := two_clear2 p1
          clear p1 p2
          go_wp2_with fail
          refine C.mono ?_
          clear C
          rintro e w7 ⟨rfl, p1, p2⟩
          obtain ⟨ms5, hms5⟩ : ∃ ms5 : List En, ms5 = [] := ⟨_, rfl⟩
          have TYN : Hid (Tidy x0 ms5) := Lib.hid (by rw [hms5]; exact Tidy.nil (by omega))
          have TW : Hid (Two W (fun x => x < W.heap.size) b c x0 ms5 ms5 h m h m w7) := Lib.hid (by rw [hms5]; exact p1.less (fun x hx => p1.1 x hx) (fun x hx => hx))
          clear hms5 TY p1 p2

          have hle : ¬ x0 < (ms5.length : Int) := by have := TYN.out.1; omega
          have HN := Aside0.mk (TW.out.below (below_drew (Below.refl _ _)))
          clear TW
          go_wp2
          go_region_held3 (fun w' => Aside0 (Two W (fun x => x < W.heap.size) b c x0 ms5 ms5 (h) (m) (h) (m) w') ∧ w'.cell? ⟨c, 2, none⟩ = some (.int .i64 (h)) ∧ w'.cell? ⟨c, 3, none⟩ = some (.int .i64 (m)))
            (exact ⟨HN, two_cells HN.out⟩)
            (first
              | (go_at_call 15; refine (two_len1 HN.out).mono ?_; rintro e w' ⟨rfl, rfl⟩)
              | (go_at_call 23; refine (two_len2 HN.out).mono ?_; rintro e w' ⟨rfl, rfl⟩)
              | (go_at_call 14; refine (two_hits1 HN.out).mono ?_; rintro e w' ⟨rfl, rfl⟩)
              | (go_at_call 18; refine (two_misses1 HN.out).mono ?_; rintro e w' ⟨rfl, rfl⟩))
          have SN := Lib.hid (show St W b c x0 (q + 1) _ from ⟨ms5, h, m, TYN.out, by omega, by omega, by omega, by omega, HN.out⟩)
          clear HN
          go_wp2
          go_roundw
          case rel => exact ⟨q + 1, by omega, by go_num, SN⟩
          case measure => simp [intOf]; omega
    · go_wp2
      go_ret
      exact ⟨rfl, H.out.low⟩
end Go.Proofs.Ytnmfmcjgjjanfaa.CachePlays
