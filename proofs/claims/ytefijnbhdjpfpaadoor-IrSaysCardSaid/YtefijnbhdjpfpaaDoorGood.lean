/- What ir's Good answers. -/
import Derived.Test.YtefijnbhdjpfpaaDoorPlain
import Derived.Test.YtefijnbhdjpfpaaDoorFind
namespace Go.Proofs.YtefijnbhdjpfpaaDoor.Ir
open Go Go.RowKit Go.Proofs.YtefijnbhdjpfpaaDoorW.PrintWords Go.Proofs.YtefijnbhdjpfpaaDoorW.PrintLast Go.Proofs.YtefijnbhdjpfpaaDoorW.PrintMore
set_option linter.unusedVariables false
set_option linter.unusedSimpArgs false
/-- A node's block, in each later world. -/
theorem node_later {w w' : World} {g : Nat} {n : S25} (h : w.heap[g]? = some (.cells #[.int .i64 n.f0, .int .i64 n.f1, .int .i64 n.f2, .int .i64 n.f3, .int .u32 n.f4] 25 (0, 0))) (hb : Below w.heap.size w w') :
    w'.heap[g]? = some (.cells #[.int .i64 n.f0, .int .i64 n.f1, .int .i64 n.f2, .int .i64 n.f3, .int .u32 n.f4] 25 (0, 0)) := by
  rw [hb.block g (Array.getElem?_eq_some_iff.1 h).1]; exact h
theorem node_cells {w : World} {g : Nat} {n : S25} (h : w.heap[g]? = some (.cells #[.int .i64 n.f0, .int .i64 n.f1, .int .i64 n.f2, .int .i64 n.f3, .int .u32 n.f4] 25 (0, 0))) :
    w.cell? ⟨g, 0, none⟩ = some (.int .i64 n.f0) ∧ w.cell? ⟨g, 1, none⟩ = some (.int .i64 n.f1) ∧ w.cell? ⟨g, 2, none⟩ = some (.int .i64 n.f2) ∧ w.cell? ⟨g, 3, none⟩ = some (.int .i64 n.f3) ∧ w.cell? ⟨g, 4, none⟩ = some (.int .u32 n.f4) :=
  ⟨(blk_cell h 0).trans rfl, (blk_cell h 1).trans rfl, (blk_cell h 2).trans rfl, (blk_cell h 3).trans rfl, (blk_cell h 4).trans rfl⟩
def zeros : Array Value := Array.replicate 256 (.bool false)
theorem zeros_size : zeros.size = 256 := by simp [zeros]
theorem zeros_at (i : Int) (h0 : 0 ≤ i) (h1 : i < 256) : zeros[i.toNat]? = some (.bool false) := by
  unfold zeros
  rw [Array.getElem?_replicate, if_pos (by omega)]
theorem zero45 (w : World) : (zeroValue 45).run Tryd.prog w = .ok (.agg zeros) w := by kernel_rfl
theorem There.new (w : World) : There (w.alloc (.cells zeros 45)) w.heap.size (fun _ => false) := ⟨⟨zeros, blk_new w _, zeros_size, zeros_at⟩⟩
structure Rel (l : List S25) (w : World) (k : Nat) (th : Int → Bool) (wr : World) : Prop where
  fold : foldB l (fun _ => false) = foldB (l.drop k) th
  there : There wr w.heap.size th
  below : Below w.heap.size w wr
/-- Within a round: the array, the node's block g. -/
structure Rd (w : World) (g : Nat) (n : S25) (th : Int → Bool) (wx : World) : Prop where
  there : There wx w.heap.size th
  node : wx.heap[g]? = some (.cells #[.int .i64 n.f0, .int .i64 n.f1, .int .i64 n.f2, .int .i64 n.f3, .int .u32 n.f4] 25 (0, 0))
  below : Below w.heap.size w wx
theorem Rd.later {w : World} {g : Nat} {n : S25} {th : Int → Bool} {wx wy : World} (h : Rd w g n th wx) (hb : Below wx.heap.size wx wy) : Rd w g n th wy :=
  ⟨h.there.below hb, node_later h.node hb, h.below.trans (hb.mono h.below.size)⟩
theorem Rd.drewN {w : World} {g : Nat} {n : S25} {th : Int → Bool} {wx : World} (h : Rd w g n th wx) (q : Nat) : Rd w g n th (wx.drewN q) :=
  ⟨⟨h.there.out⟩, h.node, pw_below_drewN h.below q⟩
theorem drop_at {l : List S25} {k : Nat} (hlt : k < l.length) {n : S25} (hn : n = rd_T25 l (k : Int)) : l.drop k = n :: l.drop (k + 1) := by
  rw [List.drop_eq_getElem_cons hlt, hn]
  congr 1
  unfold rd_T25
  rw [Int.toNat_natCast, List.getD_eq_getElem?_getD, List.getElem?_eq_getElem hlt]
  rfl
theorem good_no {l : List S25} {w wr : World} {k : Nat} {th : Int → Bool} {n : S25} (R : Rel l w k th wr) (hlt : k < l.length) (hn : n = rd_T25 l (k : Int)) (h1 : 0 < l.length) (h2 : l.length ≤ 2000) (h8 : (rd_T25 l 0).f0 = 8)
    (hs : stepB th n = false) : goodB l = false := by
  unfold goodB
  rw [if_neg (by omega), if_neg (by omega), if_pos h8, R.fold, drop_at hlt hn]
  simp [foldB, hs]
theorem rel_next {l : List S25} {w wr wx : World} {k : Nat} {th : Int → Bool} {n : S25} (R : Rel l w k th wr) (hlt : k < l.length) (hn : n = rd_T25 l (k : Int)) (hs : stepB th n = true) (ht : There wx w.heap.size (nextT th n)) (hb : Below w.heap.size w wx) :
    Rel l w (k + 1) (nextT th n) wx := by
  refine ⟨?_, ht, hb⟩
  rw [R.fold, drop_at hlt hn]
  simp [foldB, hs]
theorem There.set {w : World} {b : Nat} {th : Int → Bool} (h : There w b th) (i : Int) (h0 : 0 ≤ i) (h1 : i < 256) : There (w.setCell ⟨b, i.toNat, none⟩ (.bool true)) b (upd th i) := by
  obtain ⟨cs, hb, hs, hc⟩ := h.out
  refine ⟨⟨cs.setIfInBounds i.toNat (.bool true), blk_set hb _ _, by simp [hs], fun j j0 j1 => ?_⟩⟩
  unfold upd
  rw [Array.getElem?_setIfInBounds]
  by_cases e : j = i
  · subst e; simp; omega
  · rw [if_neg (by omega), if_neg e]; exact hc j j0 j1
theorem There.free {w : World} {b : Nat} {th : Int → Bool} (h : There w b th) (i : Nat) : w.frozen? ⟨b, i, none⟩ = false := by
  obtain ⟨cs, hb, _⟩ := h.out
  exact blk_frozen hb i
theorem good_end {l : List S25} {w wr : World} {th : Int → Bool} (R : Rel l w l.length th wr) (h1 : 0 < l.length) (h2 : l.length ≤ 2000) (h8 : (rd_T25 l 0).f0 = 8) : goodB l = lastB l := by
  unfold goodB
  rw [if_neg (by omega), if_neg (by omega), if_pos h8, R.fold, List.drop_length]
  simp [foldB]
theorem writes9 (n : S25) (r1 : Int) (r2 : Bool) (h : writesP n = (r1, r2)) (w : World) : Calls Tryd.prog 9 #[.agg #[.int .i64 n.f0, .int .i64 n.f1, .int .i64 n.f2, .int .i64 n.f3, .int .u32 n.f4]] w fun e w' => e = .returned (.tuple #[.int .i64 r1, .bool r2]) ∧ Below w.heap.size w w' :=
  ir_Writes.calls _ _ _ _ _ _ _ w ((writes_at n).trans (congrArg some h))
theorem formed19 (n : S25) (b : Bool) (h : formedB n = b) (w : World) : Calls Tryd.prog 19 #[.agg #[.int .i64 n.f0, .int .i64 n.f1, .int .i64 n.f2, .int .i64 n.f3, .int .u32 n.f4]] w fun e w' => e = .returned (.bool b) ∧ Below w.heap.size w w' :=
  ir_formed.calls (0 + 6) _ _ _ _ _ _ w ((formed_at 0 n).trans (congrArg some h))
theorem tags20 (op : Int) (b : Bool) (h : tagsB op = b) (w : World) : Calls Tryd.prog 20 #[.int .i64 op] w fun e w' => e = .returned (.bool b) ∧ Drawn0 w w' :=
  ir_tags.calls _ _ w ((tags_at op).trans (congrArg some h))
def ReadsE (xs : List Int) (w : World) (e : Ending) (w' : World) : Prop := ∃ (A : Option Addr) (c : Nat), e = .returned (.slice A xs.length c) ∧ xs.length ≤ c ∧ Kd.C (Kd.int .i64) w' A xs.length xs ∧ Below w.heap.size w w'
theorem reads10 (n : S25) (xs : List Int) (h : readsL n = xs) (w : World) : Calls Tryd.prog 10 #[.agg #[.int .i64 n.f0, .int .i64 n.f1, .int .i64 n.f2, .int .i64 n.f3, .int .u32 n.f4]] w (ReadsE xs w) := by
  refine (ir_Reads.calls (0 + 4) _ _ _ _ _ _ w ((reads_at 0 n).trans (congrArg some h))).mono ?_
  rintro e w' ⟨v, rfl, hR, hb⟩
  obtain ⟨A, c, rfl, hc, hC⟩ := Kd.R_reads hR
  exact ⟨A, c, rfl, hc, hC, hb⟩
set_option maxRecDepth 100000 in
set_option maxHeartbeats 4000000 in
theorem good_walk (A : Option Addr) (c : Nat) (l : List S25) (w : World) (hr : Kd.C k25 w A l.length l) (hc : l.length ≤ c) (h1 : 0 < l.length) (h2 : l.length ≤ 2000) (h8 : (rd_T25 l 0).f0 = 8) :
    Calls Tryd.prog 11 #[.slice A l.length c] w fun e w' => e = .returned (.bool (goodB l)) ∧ Below w.heap.size w w' := by
  have HR := Lib.hid hr
  clear hr
  obtain ⟨ad, rfl, q0, x1, x2, x3, x4⟩ := at_T25 HR.out 0 (by omega) (by omega)
  rw [h8] at q0
  replace q0 : w.cell? ad = some (.int .i64 8) := by
    have e : ad.add (Int.toNat 0 * 5) = ad := by cases ad; simp [Addr.add]
    rw [e] at q0; exact q0
  clear x1 x2 x3 x4
  have H8 := Lib.hid h8
  clear h8
  have g1 : ((l.length : Int) == 0) = false := beq_eq_false_iff_ne.2 (by omega)
  have g2 : decide (2000 < (l.length : Int)) = false := decide_eq_false (by omega)
  have z45 := zero45
  go_enter Tryd.func11, Tryd.ntmps11
  go_wp2
  clear z45 q0 g1 g2
  go_loopw [26] (fun i wr => ∃ (k : Nat) (th : Int → Bool), k ≤ l.length ∧ i = .int .i64 k ∧ Rel l w k th wr) (fun i _ => l.length - (intOf i).toNat)
  case atStart => exact ⟨0, fun _ => false, Nat.zero_le _, rfl, rfl, There.new w, (Below.refl _ _).alloc (Nat.le_refl _) _⟩
  case round =>
    obtain ⟨k, th, hk, rfl, REL⟩ := hrel
    by_cases hlt : k < l.length
    · obtain ⟨_, e, x0, x1, x2, x3, x4⟩ := at_T25 HR.out (k : Int) (by omega) (by omega)
      cases e
      obtain ⟨n, hn⟩ : ∃ n, n = rd_T25 l (k : Int) := ⟨_, rfl⟩
      rw [← hn] at x0 x1 x2 x3 x4
      have HN := Lib.hid hn
      clear hn
      simp only [Int.toNat_natCast] at x0 x1 x2 x3 x4
      have hB := REL.below
      replace x0 := (hB.cell (World.block_lt_of_cell? w _ x0)).trans x0
      replace x1 := (hB.cell (World.block_lt_of_cell? w _ x1)).trans x1
      replace x2 := (hB.cell (World.block_lt_of_cell? w _ x2)).trans x2
      replace x3 := (hB.cell (World.block_lt_of_cell? w _ x3)).trans x3
      replace x4 := (hB.cell (World.block_lt_of_cell? w _ x4)).trans x4
      clear hB
      have RD0 : Rd w wr.heap.size n th (wr.alloc (.cells #[.int .i64 n.f0, .int .i64 n.f1, .int .i64 n.f2, .int .i64 n.f3, .int .u32 n.f4] 25)) := ⟨REL.there.below ((Below.refl _ _).alloc (Nat.le_refl _) _), blk_new _ _, REL.below.alloc REL.below.size _⟩
      by_cases hf : formedB n = true
      · obtain ⟨⟨f10, f11⟩, _⟩ := formed_in hf
        have F19 := formed19 n true hf
        obtain ⟨xs, hxs⟩ : ∃ xs, readsL n = xs := ⟨_, rfl⟩
        have F10 := reads10 n xs hxs
        obtain ⟨an, han⟩ : ∃ an, an = xs.any (fun t => !th t) := ⟨_, rfl⟩
        have F21 : ∀ (A : Option Addr) (c : Nat) (wx : World), There wx w.heap.size th → Kd.C (Kd.int .i64) wx A xs.length xs → xs.length ≤ c → Calls Tryd.prog 21 #[.slice A xs.length c, .func (.func 22) #[] #[.pointer (some ⟨w.heap.size, 0, none⟩)]] wx (SomeBool an wx) := by
          intro A c wx ht hC hc
          rw [han, ← hxs]
          rw [← hxs] at hC hc
          exact containsFunc A c _ th _ wx ht hC hc (by have := reads_len n; omega) (reads_in hf)
        obtain ⟨r1, r2, hwr⟩ : ∃ r1 r2, writesP n = (r1, r2) := ⟨_, _, rfl⟩
        have F9 := writes9 n r1 r2 hwr
        obtain ⟨r10, r11⟩ : 0 ≤ r1 ∧ r1 < 256 := by have := writes_in hf; rw [hwr] at this; exact this
        have hz : ∀ (b : Bool), tagsB n.f0 = b → (b && !th n.f1) = false → an = false → stepB th n = true := by
          intro b hb hb2 ha
          unfold stepB
          rw [hf, hb, hb2, hxs, ← han, ha]
          rfl
        have hy : ∀ (b : Bool), tagsB n.f0 = b → ((b && !th n.f1) = true ∨ an = true) → stepB th n = false := by
          intro b hb hb2
          unfold stepB
          rw [hf, hb, hxs, ← han]
          rcases hb2 with h | h <;> simp [h]
        have hnx : nextT th n = if r2 = true then upd th r1 else th := by unfold nextT; rw [hwr]
        have HNX := Lib.hid hnx
        clear hnx
        have RD := Lib.hid RD0
        clear RD0 hf hwr han
        have HZ := Lib.hid hz
        have HY := Lib.hid hy
        have HXS := Lib.hid hxs
        clear hz hy hxs
        obtain ⟨tg, htg⟩ : ∃ tg, tagsB n.f0 = tg := ⟨_, rfl⟩
        have F20 := tags20 n.f0 tg htg
        have HTG := Lib.hid htg
        clear htg
        obtain ⟨t1, ht1⟩ : ∃ t1, th n.f1 = t1 := ⟨_, rfl⟩
        by_cases hno : tg = true ∧ t1 = false
        · obtain ⟨rfl, rfl⟩ := hno
          have NO := good_no REL hlt HN.out h1 h2 H8.out (HY.out true HTG.out (Or.inl (by rw [ht1]; rfl)))
          have NO' := Lib.hid NO
          clear NO
          go_wp2_with (first | (go_at_call 19; refine (F19 _).mono ?_; rintro e w1 ⟨rfl, hb1⟩; have R1 := RD.out.later hb1; clear hb1; obtain ⟨c0, c1, c2, c3, c4⟩ := node_cells R1.node; have ct := R1.there.cell n.f1 f10 f11) | (go_at_call 20; refine (F20 _).mono ?_; rintro e w2 ⟨rfl, ⟨q, rfl⟩⟩; have R2 := R1.drewN q) | (go_at_call 10; refine (F10 _).mono ?_; rintro e w3 ⟨A3, k3, rfl, hk3, hC3, hb3⟩; have R3 := R2.later hb3; clear hb3; obtain ⟨d0, d1, d2, d3, d4⟩ := node_cells R3.node) | (go_at_call 21; refine (F21 _ _ _ R3.there hC3 hk3).mono ?_; rintro e w4 ⟨rfl, rfl⟩) | (go_at_call 9; refine (F9 _).mono ?_; rintro e w5 ⟨rfl, hb5⟩; have R5 := R3.later hb5; clear hb5; have hs5 := R5.there.cell r1 r10 r11; have hf5 := R5.there.free r1.toNat))
          go_ret
          exact ⟨by rw [NO'.out]; rfl, R2.below⟩
        · have hgo : (tg && !t1) = false := by cases tg <;> cases t1 <;> simp at hno ⊢
          cases an with
          | true =>
            have NO := good_no REL hlt HN.out h1 h2 H8.out (HY.out tg HTG.out (Or.inr rfl))
            have NO' := Lib.hid NO
            clear NO
            cases tg <;> cases t1 <;> simp at hgo
            all_goals clear hno
            all_goals
              go_wp2_with (first | (go_at_call 19; refine (F19 _).mono ?_; rintro e w1 ⟨rfl, hb1⟩; have R1 := RD.out.later hb1; clear hb1; obtain ⟨c0, c1, c2, c3, c4⟩ := node_cells R1.node; have ct := R1.there.cell n.f1 f10 f11) | (go_at_call 20; refine (F20 _).mono ?_; rintro e w2 ⟨rfl, ⟨q, rfl⟩⟩; have R2 := R1.drewN q) | (go_at_call 10; refine (F10 _).mono ?_; rintro e w3 ⟨A3, k3, rfl, hk3, hC3, hb3⟩; have R3 := R2.later hb3; clear hb3; obtain ⟨d0, d1, d2, d3, d4⟩ := node_cells R3.node) | (go_at_call 21; refine (F21 _ _ _ R3.there hC3 hk3).mono ?_; rintro e w4 ⟨rfl, rfl⟩) | (go_at_call 9; refine (F9 _).mono ?_; rintro e w5 ⟨rfl, hb5⟩; have R5 := R3.later hb5; clear hb5; have hs5 := R5.there.cell r1 r10 r11; have hf5 := R5.there.free r1.toNat))
              go_ret
              exact ⟨by rw [NO'.out]; rfl, R3.below⟩
          | false =>
            have YES := fun (wx : World) => rel_next (wx := wx) REL hlt HN.out (HZ.out tg HTG.out (by rw [ht1]; exact hgo) rfl)
            have YES' := Lib.hid YES
            clear YES
            cases tg <;> cases t1 <;> simp at hgo
            all_goals clear hno
            all_goals cases r2
            all_goals
              go_wp2_with (first | (go_at_call 19; refine (F19 _).mono ?_; rintro e w1 ⟨rfl, hb1⟩; have R1 := RD.out.later hb1; clear hb1; obtain ⟨c0, c1, c2, c3, c4⟩ := node_cells R1.node; have ct := R1.there.cell n.f1 f10 f11) | (go_at_call 20; refine (F20 _).mono ?_; rintro e w2 ⟨rfl, ⟨q, rfl⟩⟩; have R2 := R1.drewN q) | (go_at_call 10; refine (F10 _).mono ?_; rintro e w3 ⟨A3, k3, rfl, hk3, hC3, hb3⟩; have R3 := R2.later hb3; clear hb3; obtain ⟨d0, d1, d2, d3, d4⟩ := node_cells R3.node) | (go_at_call 21; refine (F21 _ _ _ R3.there hC3 hk3).mono ?_; rintro e w4 ⟨rfl, rfl⟩) | (go_at_call 9; refine (F9 _).mono ?_; rintro e w5 ⟨rfl, hb5⟩; have R5 := R3.later hb5; clear hb5; have hs5 := R5.there.cell r1 r10 r11; have hf5 := R5.there.free r1.toNat))
              go_roundw
              case rel => exact ⟨k + 1, nextT th n, by omega, by go_num, YES'.out _ (by rw [HNX.out]; first | exact R5.there | exact R5.there.set r1 r10 r11) (by first | exact R5.below | exact R5.below.setCell (Nat.le_refl _) _)⟩
              case measure => simp [intOf]; omega
      · replace hf : formedB n = false := by simpa using hf
        have NO := good_no REL hlt HN.out h1 h2 H8.out (show stepB th n = false by unfold stepB; rw [hf]; rfl)
        have F19 := formed19 n false hf
        have NO' := Lib.hid NO
        have RD0' := Lib.hid RD0
        clear NO RD0 hf
        go_wp2_with (go_at_call 19; refine (F19 _).mono ?_; rintro e w1 ⟨rfl, hb1⟩; have R1 := RD0'.out.later hb1; obtain ⟨c0, c1, c2, c3, c4⟩ := node_cells R1.node)
        go_ret
        exact ⟨by rw [NO'.out]; rfl, R1.below⟩
    · have he : k = l.length := by omega
      subst he
      have E := good_end REL h1 h2 H8.out
      obtain ⟨m, hm⟩ : ∃ m, m = (rd_T25 l ((l.length : Int) - 1)).f0 := ⟨_, rfl⟩
      obtain ⟨_, e, x0, _, _, _, _⟩ := at_T25 HR.out ((l.length : Int) - 1) (by omega) (by omega)
      cases e
      unfold lastB at E
      rw [← hm] at E x0
      have hi : ((l.length : Int) - 1).toNat = l.length - 1 := by omega
      rw [hi] at x0
      replace x0 := (REL.below.cell (World.block_lt_of_cell? w _ x0)).trans x0
      have RB := REL.below
      have E' := Lib.hid E
      clear E hm hi hk hlt
      have b0 : 0 ≤ (l.length : Int) - 1 := by omega
      have b1 : 1 ≤ l.length := by omega
      by_cases m0 : 11 ≤ m
      · go_wp2
        go_ret
        exact ⟨by rw [E'.out, decide_eq_true m0]; rfl, RB⟩
      · have m0b : decide (11 ≤ m) = false := decide_eq_false m0
        go_wp2
        go_ret
        exact ⟨by rw [E'.out, m0b]; rfl, RB⟩
set_option maxRecDepth 100000 in
set_option maxHeartbeats 4000000 in
theorem good_nil (A : Option Addr) (c : Nat) (w : World) : Calls Tryd.prog 11 #[.slice A 0 c] w fun e w' => e = .returned (.bool false) ∧ Below w.heap.size w w' := by
  go_enter Tryd.func11, Tryd.ntmps11
  go_wp2
  go_ret
  exact ⟨rfl, Below.refl _ _⟩
set_option maxRecDepth 100000 in
set_option maxHeartbeats 4000000 in
theorem good_long (A : Option Addr) (n c : Nat) (w : World) (h : 2000 < n) : Calls Tryd.prog 11 #[.slice A n c] w fun e w' => e = .returned (.bool false) ∧ Below w.heap.size w w' := by
  have g1 : ((n : Int) == 0) = false := beq_eq_false_iff_ne.2 (by omega)
  have g2 : decide (2000 < (n : Int)) = true := decide_eq_true (by omega)
  clear h
  go_enter Tryd.func11, Tryd.ntmps11
  go_wp2
  go_ret
  exact ⟨rfl, Below.refl _ _⟩
set_option maxRecDepth 100000 in
set_option maxHeartbeats 4000000 in
theorem good_head (A : Option Addr) (c : Nat) (l : List S25) (w : World) (hr : Kd.C k25 w A l.length l) (h1 : 0 < l.length) (h2 : l.length ≤ 2000) (h8 : (rd_T25 l 0).f0 ≠ 8) :
    Calls Tryd.prog 11 #[.slice A l.length c] w fun e w' => e = .returned (.bool false) ∧ Below w.heap.size w w' := by
  obtain ⟨ad, rfl, q0, x1, x2, x3, x4⟩ := at_T25 hr 0 (by omega) (by omega)
  obtain ⟨m, hm⟩ : ∃ m, m = (rd_T25 l 0).f0 := ⟨_, rfl⟩
  rw [← hm] at q0 h8
  replace q0 : w.cell? ad = some (.int .i64 m) := by
    have e : ad.add (Int.toNat 0 * 5) = ad := by cases ad; simp [Addr.add]
    rw [e] at q0; exact q0
  clear x1 x2 x3 x4 hr hm
  have g1 : ((l.length : Int) == 0) = false := beq_eq_false_iff_ne.2 (by omega)
  have g2 : decide (2000 < (l.length : Int)) = false := decide_eq_false (by omega)
  have g3 : (m != 8) = true := bne_iff_ne.2 h8
  clear h8
  go_enter Tryd.func11, Tryd.ntmps11
  go_wp2
  go_ret
  exact ⟨rfl, Below.refl _ _⟩
def ir_Good.f (l0 : List S25) : Option Bool := some (goodB l0)
theorem ir_Good.calls (A0 : Option Addr) (c0 : Nat) (l0 : List (S25)) (r : Bool) (w : World) (hr0 : Kd.C k25 w A0 l0.length l0) (hc0 : l0.length ≤ c0) (h : ir_Good.f l0 = some r) :
    Calls Tryd.prog 11 #[.slice A0 l0.length c0] w fun e w' => e = .returned (.bool r) ∧ Below w.heap.size w w' := by
  obtain rfl := Option.some.inj h
  by_cases h0 : l0.length = 0
  · have e : goodB l0 = false := by unfold goodB; rw [if_pos h0]
    rw [e, h0]
    exact good_nil A0 c0 w
  · by_cases h2 : 2000 < l0.length
    · have e : goodB l0 = false := by unfold goodB; rw [if_neg h0, if_pos h2]
      rw [e]
      exact good_long A0 _ c0 w h2
    · by_cases h8 : (rd_T25 l0 0).f0 = 8
      · exact good_walk A0 c0 l0 w hr0 hc0 (by omega) (by omega) h8
      · have e : goodB l0 = false := by unfold goodB; rw [if_neg h0, if_neg h2, if_neg h8]
        rw [e]
        exact good_head A0 c0 l0 w hr0 (by omega) (by omega) h8
end Go.Proofs.YtefijnbhdjpfpaaDoor.Ir
