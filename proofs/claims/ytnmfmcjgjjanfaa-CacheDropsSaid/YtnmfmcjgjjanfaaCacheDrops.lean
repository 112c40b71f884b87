/- CacheDrops: a page's lists go all at once, others stay. -/
import Derived.Test.YtnmfmcjgjjanfaaDropsP
import Derived.Test.YtnmfmcjgjjanfaaOpenT
import Derived.Deep.QuietTactic
import Derived.BigQuiet
namespace Go.Proofs.Ytnmfmcjgjjanfaa.CacheDrops
open Go Go.RowKit Go.Proofs.YtnmfmcjgjjanfaaW.PrintWords Go.Proofs.YtnmfmcjgjjanfaaW.PrintLast Go.Proofs.YtnmfmcjgjjanfaaW.PrintMore Go.Proofs.Ytnmfmcjgjjanfaa.Pr Go.Proofs.Ytnmfmcjgjjanfaa.Lits Go.Proofs.Ytnmfmcjgjjanfaa.Cache Go.Proofs.Ytnmfmcjgjjanfaa.Open Go.Proofs.Ytnmfmcjgjjanfaa.OpenT
set_option linter.unusedVariables false
set_option linter.unusedSimpArgs false
/-- What the first loop holds. -/
def St (W : World) (b : Nat) (ks : List Int) (ms : List En) (w : World) : Prop := Inv ks ms ∧ ∃ d, Has (fun x => W.heap.size ≤ x) b 256 d ms 0 0 w ∧ Below W.heap.size W w
/-- What the last loop holds. -/
def Sg (W : World) (b q : Nat) (ms : List En) (w : World) : Prop := ∃ d h m, 0 ≤ h ∧ h ≤ (q : Int) ∧ 0 ≤ m ∧ m ≤ (q : Int) ∧ Has (fun x => W.heap.size ≤ x) b 256 d ms h m w ∧ Below W.heap.size W w
theorem St.drewN {W : World} {b : Nat} {ks : List Int} {ms : List En} {w : World} (h : St W b ks ms w) (n : Nat) : St W b ks ms (w.drewN n) := by
  obtain ⟨h1, d, h2, h3⟩ := h
  exact ⟨h1, d, h2.below (pw_below_drewN (Below.refl _ _) n), pw_below_drewN h3 n⟩
theorem St.low {W : World} {b : Nat} {ks : List Int} {ms : List En} {w : World} (h : St W b ks ms w) : Below W.heap.size W w := let ⟨_, _, _, h3⟩ := h; h3
theorem u32_at {w : World} {A : Option Addr} {n : Nat} {xs : List Int} (h : Kd.C (Kd.int .u32) w A n xs) (q : Nat) (hq : q < n) : ∃ ad z, A = some ad ∧ xs[q]? = some z ∧ w.cell? (ad.add q) = some (.int .u32 z) := by
  obtain ⟨hl, _, hr⟩ := h
  obtain ⟨ad, rfl, hc⟩ := hr (by omega)
  have hz : xs[q]? = some xs[q] := List.getElem?_eq_getElem (by omega)
  obtain ⟨c, h1, h2, h3⟩ := hc q _ hz
  refine ⟨ad, _, rfl, hz, ?_⟩
  have h2' : c = [.int .u32 xs[q]] := h2
  have := h3 0 (.int .u32 xs[q]) (by rw [h2']; rfl)
  have e : q * (Kd.int .u32).sz + 0 = q := by show q * 1 + 0 = q; omega
  rw [e] at this
  exact this
set_option maxRecDepth 100000 in
set_option maxHeartbeats 2000000 in
theorem walk (W : World) (x0 : List (Int)) (wx0 : wf42 x0) (A0 : Option Addr) (c0 : Nat) (l0_0 : x0.length ≤ c0) (r0_0 : Kd.C (Kd.int .u32) W A0 x0.length x0) (x1 : Int) (wx1 : (Lit.int .u32 x1).wf = true) :
    Calls Try.prog 5 #[.slice A0 x0.length c0, .int .u32 x1] W fun e w' => e = .returned (.bool true) ∧ Below W.heap.size W w' := by
  clear wx1
  obtain ⟨ad, hA0⟩ : ∃ ad, 0 < x0.length → A0 = some ad := by
    by_cases h0 : 0 < x0.length
    · obtain ⟨ad, z, e, _⟩ := u32_at r0_0 0 h0
      exact ⟨ad, fun _ => e⟩
    · exact ⟨⟨0, 0, none⟩, fun h => absurd h h0⟩
  have R0 := Lib.hid r0_0
  have WX := Lib.hid wx0
  clear r0_0 l0_0 wx0
  go_enter Try.func5, Try.ntmps5
  go_wp2_with fail
  refine (awake _).mono ?_
  rintro e w1 ⟨rfl, h1⟩
  have B1 := Lib.hid h1
  clear h1
  by_cases g5 : 60 < x0.length
  · have hB := B1.out
    go_wp2
    go_ret
    exact ⟨rfl, hB⟩
  have m4 : x0.length ≤ 60 := by omega
  go_wp2_with fail
  refine (new_ok 256 _ (by omega) (by omega)).mono ?_
  rintro e w2 ⟨rfl, h2⟩
  obtain ⟨b, hb⟩ : ∃ b, b = w1.heap.size := ⟨_, rfl⟩
  have ST : Hid (St W b [] [] w2) := by
    have b2 : Below w1.heap.size w1 w2 := by rw [h2]; exact (Below.refl _ _).alloc (Nat.le_refl _) _
    refine Lib.hid ⟨Inv.nil, 0, ?_, below_step B1.out b2⟩
    rw [hb, h2]
    exact Has.new 256 w1 B1.out.size
  rw [← hb]
  clear h2 hb B1 g5
  go_wp2
  go_loopw [9, 7, 8] (fun i h a wr => ∃ q ms, q ≤ x0.length ∧ i = .int .i64 q ∧ h = .int .i64 (cnt x1 ms) ∧ a = .int .i64 ms.length ∧ Hid (St W b (x0.take q) ms wr)) (fun i _ _ _ => x0.length - (intOf i).toNat)
  case atStart => exact ⟨0, [], Nat.zero_le _, rfl, rfl, rfl, ST⟩
  case round =>
    obtain ⟨q, ms, hq, rfl, rfl, rfl, SQ⟩ := hrel
    clear ST
    by_cases hlt : q < x0.length
    · obtain rfl := hA0 (by omega)
      obtain ⟨_, z, e, hz, hc⟩ := u32_at (Kd.C_below R0.out SQ.out.low) q hlt
      cases e
      clear hc
      go_wp2
      go_loopw [11, 10] (fun k a wq => ∃ j : Nat, j ≤ q ∧ k = .int .i64 j ∧ a = .bool (decide (z ∈ x0.take j)) ∧ Hid (St W b (x0.take q) ms wq)) (fun k _ _ => q - (intOf k).toNat)
      case atStart => exact ⟨0, Nat.zero_le _, rfl, by simp, SQ⟩
      case round =>
        obtain ⟨j, hj, rfl, rfl, SJ⟩ := hrel
        clear SQ
        by_cases hjq : j < q
        · obtain ⟨_, y, e, hy, hcy⟩ := u32_at (Kd.C_below R0.out SJ.out.low) j (by omega)
          cases e
          obtain ⟨_, z', e, hz', hcz⟩ := u32_at (Kd.C_below R0.out SJ.out.low) q hlt
          cases e
          obtain rfl : z = z' := Option.some.inj (hz.symm.trans hz')
          have hnext : x0.take (j + 1) = x0.take j ++ [y] := by rw [List.take_add_one, hy]; rfl
          by_cases hA : z ∈ x0.take j
          · have d1 : decide (z ∈ x0.take j) = true := decide_eq_true hA
            have d2 : decide (z ∈ x0.take (j + 1)) = true := decide_eq_true (by rw [hnext]; exact List.mem_append.2 (.inl hA))
            have D2 := Lib.hid d2
            rw [d1]
            clear hcy hcz hnext hy hz hz' hA d2
            go_wp2
            go_quiet (fail)
            go_wp2
            go_roundw
            case rel => exact ⟨j + 1, by omega, by go_num, by rw [D2.out], Lib.hid (SJ.out.drewN _)⟩
            case measure => simp [intOf]; omega
          · have d1 : decide (z ∈ x0.take j) = false := decide_eq_false hA
            have d2 : decide (z ∈ x0.take (j + 1)) = (y == z) := by
              rw [hnext]
              rw [Bool.eq_iff_iff, decide_eq_true_eq, List.mem_append, List.mem_singleton, beq_iff_eq]
              exact ⟨fun h => (h.resolve_left hA).symm, fun h => .inr h.symm⟩
            have D2 := Lib.hid d2
            rw [d1]
            have b1 : (0 : Int) ≤ (j : Int) := by omega
            have b2 : (j : Int) < (x0.length : Int) := by omega
            have b3 : (0 : Int) ≤ (q : Int) := by omega
            have b4 : (q : Int) < (x0.length : Int) := by omega
            clear hnext hy hz hz' hA d2
            go_wp2
            go_quiet (fail)
            go_wp2
            go_roundw
            case rel => exact ⟨j + 1, by omega, by go_num, by rw [D2.out], Lib.hid (SJ.out.drewN _)⟩
            case measure => simp [intOf]; omega
        · have hjq' : j = q := by omega
          subst hjq'
          clear hjq hj
          obtain ⟨_, z', e, hz', hcz⟩ := u32_at (Kd.C_below R0.out SJ.out.low) j hlt
          cases e
          obtain rfl : z = z' := Option.some.inj (hz.symm.trans hz')
          obtain ⟨hI, d, HS, HB⟩ := id SJ.out
          have hkl : (x0.take j).length ≤ 200 := by rw [List.length_take]; omega
          have PUT := put_D z hI hkl HS (fun x hx => Nat.le_trans HB.size hx)
          have hI2 := hI.put hkl z
          have hlen := hI.le
          rw [List.length_take] at hlen
          have hcl := cnt_le x1 ms
          have hml : ms.length ≤ 60 := by omega
          have SB := Lib.hid HB
          have HI := Lib.hid hI
          have hnext : x0.take (j + 1) = x0.take j ++ [z] := by rw [List.take_add_one, hz]; rfl
          rw [← hnext] at hI2
          have HI2 := Lib.hid hI2
          have HZ := Lib.hid hz
          clear HS HB SJ hnext hlen hI hI2 hz hz'
          go_wp2_with fail
          refine PUT.mono ?_
          clear PUT
          rintro e w4 ⟨rfl, p1, p2⟩
          have S4 : Hid (St W b (x0.take (j + 1)) (putL 256 ms (z, 0) 1 []) w4) := Lib.hid ⟨HI2.out, _, p1, p2.below SB.out (fun x hx => hx) SB.out.size⟩
          clear p1 p2 SB HI2 hcz
          by_cases hA : z ∈ x0.take j
          · obtain ⟨c1, c2⟩ := cnt_again HI.out hkl hA x1
            have d1 : decide (z ∈ x0.take j) = true := decide_eq_true hA
            rw [d1]
            go_wp2
            go_roundw
            case rel => exact ⟨j + 1, _, by omega, by go_num, by rw [c1], by rw [c2], S4⟩
            case measure => simp [intOf]; omega
          · obtain ⟨c1, c2⟩ := cnt_first HI.out hkl hA x1
            have d1 : decide (z ∈ x0.take j) = false := decide_eq_false hA
            rw [d1]
            obtain ⟨_, z', e, hz', hcz⟩ := u32_at (Kd.C_below R0.out S4.out.low) j hlt
            cases e
            obtain rfl : z = z' := Option.some.inj (HZ.out.symm.trans hz')
            by_cases hp : pg x1 (z, 0) = true
            · rw [if_pos hp] at c1
              have hpe : z.tdiv 256 % 4294967296 = x1.tdiv 256 % 4294967296 := by simpa [pg] using hp
              clear hp hz' hA
              go_wp2
              go_roundw
              case rel => exact ⟨j + 1, _, by omega, by go_num, by rw [c1]; go_num, by rw [c2]; go_num, S4⟩
              case measure => simp [intOf]; omega
            · rw [if_neg hp] at c1
              have hpe : ¬ z.tdiv 256 % 4294967296 = x1.tdiv 256 % 4294967296 := by simpa [pg] using hp
              clear hp hz' hA
              go_wp2
              go_roundw
              case rel => exact ⟨j + 1, _, by omega, by go_num, by rw [c1]; go_num, by rw [c2]; go_num, S4⟩
              case measure => simp [intOf]; omega
    · have hqe : q = x0.length := by omega
      subst hqe
      rw [List.take_length] at SQ
      obtain ⟨hI, d, HS, HB⟩ := id SQ.out
      have hml := hI.le
      have hcl := cnt_le x1 ms
      have hcr := cnt_rest x1 ms
      have hrl := rest_le x1 ms
      have HI := Lib.hid hI
      have H0 := Lib.hid HS
      have SB := Lib.hid HB
      clear hI HS HB SQ hlt hq
      have hw1 : wrap64 ((ms.length : Int) - (cnt x1 ms : Int)) = ((rest x1 ms).length : Int) := by unfold wrap64; omega
      have hm1 : ms.length ≤ 1000 := by omega
      have hm2 : (rest x1 ms).length ≤ 1000 := by omega
      have HW := Lib.hid hw1
      have M1 := Lib.hid hm1
      have M2 := Lib.hid hm2
      have M4 := Lib.hid m4
      clear hw1 hcr hrl hml hcl hm1 hm2 m4
      have C := len_has H0.out
      go_wp2_with fail
      refine C.mono ?_
      clear C
      rintro e w5 ⟨rfl, rfl⟩
      have C : Calls Try.prog 16 #[.pointer (some ⟨b, 0, none⟩), .int .u32 x1] wr fun e w' => e = .returned (.int .i64 (cnt x1 ms)) ∧ Has (fun x => W.heap.size ≤ x) b 256 1 (rest x1 ms) 0 0 w' ∧ Mod (fun x => W.heap.size ≤ x) wr w' := drop_has x1 H0.out (fun x hx => Nat.le_trans SB.out.size hx) M1.out
      go_wp2_with fail
      refine C.mono ?_
      clear C
      rintro e w6 ⟨rfl, p1, p2⟩
      have H1 := Lib.hid p1
      have S1 := Lib.hid (p2.below SB.out (fun x hx => hx) SB.out.size)
      clear p1 p2 SB H0
      have C := len_has H1.out
      go_wp2_with fail
      refine C.mono ?_
      clear C
      rintro e w7 ⟨rfl, rfl⟩
      have C : Calls Try.prog 16 #[.pointer (some ⟨b, 0, none⟩), .int .u32 x1] w6 fun e w' => e = .returned (.int .i64 (cnt x1 (rest x1 ms))) ∧ Has (fun x => W.heap.size ≤ x) b 256 1 (rest x1 (rest x1 ms)) 0 0 w' ∧ Mod (fun x => W.heap.size ≤ x) w6 w' := drop_has x1 H1.out (fun x hx => Nat.le_trans S1.out.size hx) M2.out
      rw [cnt_of_rest, rest_rest] at C
      have hw1 := HW.out
      go_wp2_with fail
      refine C.mono ?_
      clear C
      rintro e w8 ⟨rfl, p1, p2⟩
      have SG : Hid (Sg W b 0 (rest x1 ms) w8) := Lib.hid ⟨_, 0, 0, by omega, by omega, by omega, by omega, p1, p2.below S1.out (fun x hx => hx) S1.out.size⟩
      clear p1 p2 H1 S1
      go_wp2
      clear hw1 HW M1 M2
      go_loopw [12] (fun i wq => ∃ r : Nat, r ≤ x0.length ∧ i = .int .i64 r ∧ Hid (Sg W b r (rest x1 ms) wq)) (fun i _ => x0.length - (intOf i).toNat)
      case atStart => exact ⟨0, Nat.zero_le _, rfl, SG⟩
      case round =>
        obtain ⟨r, hr, rfl, SR⟩ := hrel
        clear SG
        obtain ⟨d, h, m, s1, s2, s3, s4, HS, HB⟩ := id SR.out
        have SB := Lib.hid HB
        by_cases hlt : r < x0.length
        · obtain rfl := hA0 (by omega)
          have m4 := M4.out
          obtain ⟨_, z, e, hz, hcz⟩ := u32_at (Kd.C_below R0.out SB.out) r hlt
          cases e
          have GET := get_D x1 z HI.out (by omega) (List.mem_of_getElem? hz) HS (fun x hx => Nat.le_trans HB.size hx) s1 (by omega) s3 (by omega)
          clear HS HB SR hz
          go_wp2_with fail
          refine GET.mono ?_
          clear GET
          rintro e w9 ⟨A, n, c, h', m', rfl, p1, p2, t1, t2, t3, t4⟩
          have S5 : Hid (Sg W b (r + 1) (rest x1 ms) w9) := Lib.hid ⟨_, h', m', t1, by omega, t3, by omega, p1, p2.below SB.out (fun x hx => hx) SB.out.size⟩
          have cz9 : w9.cell? (ad.add r) = some (.int .u32 z) := by
            obtain ⟨_, z', e, hz', hc'⟩ := u32_at (Kd.C_below R0.out (p2.below SB.out (fun x hx => hx) SB.out.size)) r hlt
            cases e
            obtain ⟨_, z2, e, hz2, hc2⟩ := u32_at (Kd.C_below R0.out SB.out) r hlt
            cases e
            have : z = z2 := by have := hcz.symm.trans hc2; simpa using this
            rw [this, Option.some.inj (hz2.symm.trans hz')]
            exact hc'
          clear p1 p2 SB hcz t2 t4 s2 s4
          by_cases hp : pg x1 (z, 0) = true
          · have hpe : z.tdiv 256 % 4294967296 = x1.tdiv 256 % 4294967296 := by simpa [pg] using hp
            rw [hp]
            clear hp
            go_wp2
            go_roundw
            case rel => exact ⟨r + 1, by omega, by go_num, S5⟩
            case measure => simp [intOf]; omega
          · have hpe : ¬ z.tdiv 256 % 4294967296 = x1.tdiv 256 % 4294967296 := by simpa [pg] using hp
            rw [show pg x1 (z, 0) = false by simpa using hp]
            have hpn : (z.tdiv 256 % 4294967296 != x1.tdiv 256 % 4294967296) = true := by simpa using hpe
            clear hp
            go_wp2
            go_roundw
            case rel => exact ⟨r + 1, by omega, by go_num, S5⟩
            case measure => simp [intOf]; omega
        · go_wp2
          go_ret
          exact ⟨by first | rfl | (simp; done) | (simp; omega), SB.out⟩
end Go.Proofs.Ytnmfmcjgjjanfaa.CacheDrops
