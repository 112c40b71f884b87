/- CacheLast. -/
import Derived.Test.YtnmfmcjgjjanfaaLast
import Derived.Test.YtnmfmcjgjjanfaaOpenT
namespace Go.Proofs.Ytnmfmcjgjjanfaa.CacheLast
open Go Go.RowKit Go.Proofs.YtnmfmcjgjjanfaaW.PrintWords Go.Proofs.YtnmfmcjgjjanfaaW.PrintLast Go.Proofs.YtnmfmcjgjjanfaaW.PrintMore Go.Proofs.Ytnmfmcjgjjanfaa.Pr Go.Proofs.Ytnmfmcjgjjanfaa.Lits Go.Proofs.Ytnmfmcjgjjanfaa.Cache Go.Proofs.Ytnmfmcjgjjanfaa.Open Go.Proofs.Ytnmfmcjgjjanfaa.OpenT
set_option linter.unusedVariables false
set_option linter.unusedSimpArgs false
/-- What the loops hold. -/
def St (W : World) (b M i : Nat) (q : Nat) (w : World) : Prop := ∃ d h m, 0 ≤ h ∧ h ≤ (q : Int) ∧ 0 ≤ m ∧ m ≤ (q : Int) ∧ Has (fun x => W.heap.size ≤ x) b M d (L M i) h m w ∧ Below W.heap.size W w
theorem St.later {W : World} {b M i q : Nat} {w w' : World} {d h' m' : Int} (hB : Below W.heap.size W w) (hm : Mod (fun x => W.heap.size ≤ x) w w') (hh : Has (fun x => W.heap.size ≤ x) b M d (L M i) h' m' w') (a1 : 0 ≤ h') (a2 : h' ≤ q) (a3 : 0 ≤ m') (a4 : m' ≤ q) : St W b M i q w' :=
  ⟨d, h', m', a1, a2, a3, a4, hh, hm.below hB (fun x hx => hx) hB.size⟩
theorem St.mono {W : World} {b M i q q' : Nat} {w : World} (hh : St W b M i q w) (hq : q ≤ q') : St W b M i q' w := by
  obtain ⟨d, h, m, a1, a2, a3, a4, h5, h6⟩ := hh
  exact ⟨d, h, m, a1, by omega, a3, by omega, h5, h6⟩
theorem int_at {w : World} {A : Option Addr} {n : Nat} {xs : List Int} (h : Kd.C (Kd.int .i64) w A n xs) (q : Nat) (hq : q < n) : ∃ ad z, A = some ad ∧ xs[q]? = some z ∧ w.cell? (ad.add q) = some (.int .i64 z) := by
  obtain ⟨hl, _, hr⟩ := h
  obtain ⟨ad, rfl, hc⟩ := hr (by omega)
  have hz : xs[q]? = some xs[q] := List.getElem?_eq_getElem (by omega)
  obtain ⟨c, h1, h2, h3⟩ := hc q _ hz
  refine ⟨ad, _, rfl, hz, ?_⟩
  have h2' : c = [.int .i64 xs[q]] := h2
  have := h3 0 (.int .i64 xs[q]) (by rw [h2']; rfl)
  have e : q * (Kd.int .i64).sz + 0 = q := by show q * 1 + 0 = q; omega
  rw [e] at this
  exact this
set_option maxRecDepth 100000 in
set_option maxHeartbeats 2000000 in
theorem walk (W : World) (x0 : Int) (wx0 : (Lit.int .i64 x0).wf = true) (x1 : Int) (wx1 : (Lit.int .i64 x1).wf = true) (x2 : List (Int)) (wx2 : wf39 x2) (A2 : Option Addr) (c2 : Nat) (l2_0 : x2.length ≤ c2) (r2_0 : Kd.C (Kd.int .i64) W A2 x2.length x2) :
    Calls Try.prog 4 #[.int .i64 x0, .int .i64 x1, .slice A2 x2.length c2] W fun e w' => e = .returned (.bool true) ∧ Below W.heap.size W w' := by
  clear wx0 wx1 wx2
  have R2 := Lib.hid r2_0
  clear r2_0 l2_0
  go_enter Try.func4, Try.ntmps4
  go_wp2_with fail
  refine (awake _).mono ?_
  rintro e w1 ⟨rfl, h1⟩
  have B1 := Lib.hid h1
  clear h1
  by_cases g1 : x0 < 1
  · have hB := B1.out
    go_wp2
    go_ret
    exact ⟨rfl, hB⟩
  by_cases g2 : 20 < x0
  · have hB := B1.out
    go_wp2
    go_ret
    exact ⟨rfl, hB⟩
  by_cases g3 : x1 < 0
  · have hB := B1.out
    go_wp2
    go_ret
    exact ⟨rfl, hB⟩
  by_cases g4 : 60 < x1
  · have hB := B1.out
    go_wp2
    go_ret
    exact ⟨rfl, hB⟩
  by_cases g5 : 60 < x2.length
  · have hB := B1.out
    go_wp2
    go_ret
    exact ⟨rfl, hB⟩
  obtain ⟨M, rfl⟩ : ∃ M : Nat, x0 = (M : Int) := ⟨x0.toNat, by omega⟩
  obtain ⟨N, rfl⟩ : ∃ N : Nat, x1 = (N : Int) := ⟨x1.toNat, by omega⟩
  have m1 : 1 ≤ M := by omega
  have m2 : M ≤ 20 := by omega
  have m3 : N ≤ 60 := by omega
  have m4 : x2.length ≤ 60 := by omega
  go_wp2_with fail
  refine (new_ok M _ (by omega) (by omega)).mono ?_
  rintro e w2 ⟨rfl, h2⟩
  obtain ⟨b, hb⟩ : ∃ b, b = w1.heap.size := ⟨_, rfl⟩
  have ST : Hid (St W b M 0 0 w2) := by
    have b2 : Below w1.heap.size w1 w2 := by rw [h2]; exact (Below.refl _ _).alloc (Nat.le_refl _) _
    refine Lib.hid ⟨0, 0, 0, by omega, by omega, by omega, by omega, ?_, below_step B1.out b2⟩
    rw [L_zero, hb, h2]
    exact Has.new M w1 B1.out.size
  rw [← hb]
  clear h2 hb B1 g5 g1 g2 g3 g4
  go_wp2
  go_loopw [9] (fun i wr => ∃ q : Nat, q ≤ N ∧ i = .int .i64 q ∧ Hid (St W b M q (2 * q) wr)) (fun i _ => N - (intOf i).toNat)
  case atStart => exact ⟨0, Nat.zero_le _, rfl, ST⟩
  case round =>
    obtain ⟨q, hq, rfl, SQ⟩ := hrel
    clear ST
    by_cases hlt : q < N
    · obtain ⟨d, h, m, s1, s2, s3, s4, HS, HB⟩ := id SQ.out
      have PUT := put_L M q m1 m2 HS (fun x hx => Nat.le_trans HB.size hx)
      have SB := Lib.hid HB
      clear HS HB SQ
      go_wp2_with fail
      refine PUT.mono ?_
      clear PUT
      rintro e w4 ⟨rfl, p1, p2⟩
      have S4 : Hid (St W b M (q + 1) (2 * q) w4) := Lib.hid (St.later SB.out p2 p1 s1 s2 s3 s4)
      have HS := Lib.hid p1
      have B4 := Lib.hid (p2.below SB.out (fun x hx => hx) SB.out.size)
      clear p1 p2 SB
      by_cases hin : q < x2.length
      · obtain ⟨ad, z, rfl, hz, hc⟩ := int_at (Kd.C_below R2.out B4.out) q hin
        by_cases z1 : 0 ≤ z
        · by_cases z2 : z ≤ (q : Int)
          · obtain ⟨j, rfl⟩ : ∃ j : Nat, z = (j : Int) := ⟨z.toNat, by omega⟩
            have GET := get_L M (q + 1) j m2 HS.out (fun x hx => Nat.le_trans B4.out.size hx) s1 (by omega) s3 (by omega) (by omega)
            go_wp2_with fail
            refine GET.mono ?_
            clear GET
            rintro e w5 ⟨A, n, c, h', m', rfl, p1, p2, t1, t2, t3, t4⟩
            have S5 : Hid (St W b M (q + 1) (2 * (q + 1)) w5) := Lib.hid (St.later B4.out p2 p1 t1 (by omega) t3 (by omega))
            clear p1 p2 S4 HS B4
            go_wp2
            go_roundw
            case rel => exact ⟨q + 1, by omega, by go_num, S5⟩
            case measure => simp [intOf]; omega
          · have S5 : Hid (St W b M (q + 1) (2 * (q + 1)) w4) := Lib.hid (S4.out.mono (by omega))
            go_wp2
            go_roundw
            case rel => exact ⟨q + 1, by omega, by go_num, S5⟩
            case measure => simp [intOf]; omega
        · have S5 : Hid (St W b M (q + 1) (2 * (q + 1)) w4) := Lib.hid (S4.out.mono (by omega))
          go_wp2
          go_roundw
          case rel => exact ⟨q + 1, by omega, by go_num, S5⟩
          case measure => simp [intOf]; omega
      · have S5 : Hid (St W b M (q + 1) (2 * (q + 1)) w4) := Lib.hid (S4.out.mono (by omega))
        go_wp2
        go_roundw
        case rel => exact ⟨q + 1, by omega, by go_num, S5⟩
        case measure => simp [intOf]; omega
    · have hqN : q = N := by omega
      subst hqN
      clear hlt hq
      clear R2
      have hms : wrap64 ((q : Int) - M) = (q : Int) - M := by unfold wrap64; omega
      go_wp2
      go_loopw [10] (fun i wr => ∃ r : Nat, r ≤ q ∧ i = .int .i64 r ∧ Hid (St W b M q (2 * q + r) wr)) (fun i _ => q - (intOf i).toNat)
      case atStart => exact ⟨0, Nat.zero_le _, rfl, SQ⟩
      case round =>
        obtain ⟨r, hr, rfl, SR⟩ := hrel
        clear SQ
        by_cases hlt : r < q
        · obtain ⟨d, h, m, s1, s2, s3, s4, HS, HB⟩ := id SR.out
          have GET := get_L M q r m2 HS (fun x hx => Nat.le_trans HB.size hx) s1 (by omega) s3 (by omega) hlt
          have SB := Lib.hid HB
          clear HS HB SR
          go_wp2_with fail
          refine GET.mono ?_
          clear GET
          rintro e w5 ⟨A, n, c, h', m', rfl, p1, p2, t1, t2, t3, t4⟩
          have S5 : Hid (St W b M q (2 * q + (r + 1)) w5) := Lib.hid (St.later SB.out p2 p1 t1 (by omega) t3 (by omega))
          clear p1 p2 SB
          have hcmp : decide ((q : Int) - M ≤ (r : Int)) = decide (q - M ≤ r) := by
            by_cases hx : q - M ≤ r
            · rw [decide_eq_true hx, decide_eq_true (by omega)]
            · rw [decide_eq_false hx, decide_eq_false (by omega)]
          go_wp2
          go_roundw
          case rel => exact ⟨r + 1, by omega, by go_num, S5⟩
          case measure => simp [intOf]; omega
        · obtain ⟨d, h, m, s1, s2, s3, s4, HS, HB⟩ := id SR.out
          have LE := len_has HS
          have SB := Lib.hid HB
          have hll := L_len M q
          clear HS HB SR
          go_wp2_with fail
          refine LE.mono ?_
          rintro e w5 ⟨rfl, rfl⟩
          go_wp2
          go_ret
          exact ⟨by first | (simp; done) | (simp; omega), SB.out⟩
end Go.Proofs.Ytnmfmcjgjjanfaa.CacheLast
