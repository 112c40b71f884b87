/- What the reference's Good answers. -/
import Derived.Test.YtefijnbhdjpfpaaDoorRPlain
import Derived.Test.YtefijnbhdjpfpaaDoorGood
import Derived.Lib.Hide
namespace Go.Proofs.YtefijnbhdjpfpaaDoor.Ir
open Go Go.RowKit Go.Proofs.YtefijnbhdjpfpaaDoorW.PrintWords Go.Proofs.YtefijnbhdjpfpaaDoorW.PrintLast Go.Proofs.YtefijnbhdjpfpaaDoorW.PrintMore
set_option linter.unusedVariables false
set_option linter.unusedSimpArgs false
def rgoodB (l : List S36) : Bool :=
  if l.length < 1 then false else if 2000 < l.length then false else if (rd_T36 l 0).f0 = 8 then
    (if (rd_T36 l ((l.length : Int) - 1)).f0 = 11 ∨ (rd_T36 l ((l.length : Int) - 1)).f0 = 12 ∨ (rd_T36 l ((l.length : Int) - 1)).f0 = 13 then foldB (l.map conv) (fun _ => false) else false) else false
structure RRel (l : List S36) (w : World) (k : Nat) (th : Int → Bool) (wr : World) : Prop where
  fold : foldB (l.map conv) (fun _ => false) = foldB ((l.drop k).map conv) th
  there : There wr w.heap.size th
  below : Below w.heap.size w wr
/-- Within a round. -/
structure RRd (w : World) (th : Int → Bool) (wx : World) : Prop where
  there : There wx w.heap.size th
  below : Below w.heap.size w wx
theorem RRd.later {w : World} {th : Int → Bool} {wx wy : World} (h : RRd w th wx) (hb : Below wx.heap.size wx wy) : RRd w th wy := ⟨h.there.below hb, h.below.trans (hb.mono h.below.size)⟩
theorem rdrop_at {l : List S36} {k : Nat} (hlt : k < l.length) {n : S36} (hn : n = rd_T36 l (k : Int)) : l.drop k = n :: l.drop (k + 1) := by
  rw [List.drop_eq_getElem_cons hlt, hn]
  congr 1
  unfold rd_T36
  rw [Int.toNat_natCast, List.getD_eq_getElem?_getD, List.getElem?_eq_getElem hlt]
  rfl
/-- The list is one that the loop goes through. -/
structure Heads (l : List S36) : Prop where
  h1 : ¬ l.length < 1
  h2 : ¬ 2000 < l.length
  h8 : (rd_T36 l 0).f0 = 8
  hl : (rd_T36 l ((l.length : Int) - 1)).f0 = 11 ∨ (rd_T36 l ((l.length : Int) - 1)).f0 = 12 ∨ (rd_T36 l ((l.length : Int) - 1)).f0 = 13
theorem Heads.good {l : List S36} (h : Heads l) : rgoodB l = foldB (l.map conv) (fun _ => false) := by
  unfold rgoodB
  rw [if_neg h.h1, if_neg h.h2, if_pos h.h8, if_pos h.hl]
theorem rgood_no {l : List S36} {w wr : World} {k : Nat} {th : Int → Bool} {n : S36} (H : Heads l) (R : RRel l w k th wr) (hlt : k < l.length) (hn : n = rd_T36 l (k : Int)) (hs : stepB th (conv n) = false) : rgoodB l = false := by
  rw [H.good, R.fold, rdrop_at hlt hn]
  simp [foldB, hs]
theorem rrel_next {l : List S36} {w wr wx : World} {k : Nat} {th : Int → Bool} {n : S36} (R : RRel l w k th wr) (hlt : k < l.length) (hn : n = rd_T36 l (k : Int)) (hs : stepB th (conv n) = true) (ht : There wx w.heap.size (nextT th (conv n))) (hb : Below w.heap.size w wx) :
    RRel l w (k + 1) (nextT th (conv n)) wx := by
  refine ⟨?_, ht, hb⟩
  rw [R.fold, rdrop_at hlt hn]
  simp [foldB, hs]
theorem rgood_yes {l : List S36} {w wr : World} {th : Int → Bool} (H : Heads l) (R : RRel l w l.length th wr) : rgoodB l = true := by
  rw [H.good, R.fold, List.drop_length]
  rfl
/-- A node's cells in each later world. -/
def NodeAt (w : World) (ad : Addr) (k : Nat) (n : S36) : Prop :=
  w.cell? (ad.add (k * 5)) = some (.int .i64 n.f0) ∧ w.cell? ⟨(ad.add (k * 5)).block, (ad.add (k * 5)).off + 1, none⟩ = some (.int .i64 n.f1) ∧ w.cell? ⟨(ad.add (k * 5)).block, (ad.add (k * 5)).off + 2, none⟩ = some (.int .i64 n.f2) ∧
  w.cell? ⟨(ad.add (k * 5)).block, (ad.add (k * 5)).off + 3, none⟩ = some (.int .i64 n.f3) ∧ w.cell? ⟨(ad.add (k * 5)).block, (ad.add (k * 5)).off + 4, none⟩ = some (.int .u32 n.f4)
theorem NodeAt.later {w w' : World} {ad : Addr} {k : Nat} {n : S36} (h : NodeAt w ad k n) (hb : Below w.heap.size w w') : NodeAt w' ad k n :=
  ⟨(hb.cell (World.block_lt_of_cell? w _ h.1)).trans h.1, (hb.cell (World.block_lt_of_cell? w _ h.2.1)).trans h.2.1, (hb.cell (World.block_lt_of_cell? w _ h.2.2.1)).trans h.2.2.1, (hb.cell (World.block_lt_of_cell? w _ h.2.2.2.1)).trans h.2.2.2.1, (hb.cell (World.block_lt_of_cell? w _ h.2.2.2.2)).trans h.2.2.2.2⟩
set_option maxRecDepth 100000 in
set_option maxHeartbeats 8000000 in
theorem rgood_walk (A : Option Addr) (c : Nat) (l : List S36) (w : World) (hr : Kd.C k36 w A l.length l) (hc : l.length ≤ c) (H : Heads l) :
    Calls Tryd.prog 13 #[.slice A l.length c] w fun e w' => e = .returned (.bool (rgoodB l)) ∧ Below w.heap.size w w' := by
  have h1 : 0 < l.length := by have := H.h1; omega
  have h2 : l.length ≤ 2000 := by have := H.h2; omega
  have HR := Lib.hid hr
  clear hr
  obtain ⟨ad, rfl, q0, x1, x2, x3, x4⟩ := at_T36 HR.out 0 (by omega) (by omega)
  rw [H.h8] at q0
  replace q0 : w.cell? ad = some (.int .i64 8) := by
    have e : ad.add (Int.toNat 0 * 5) = ad := by cases ad; simp [Addr.add]
    rw [e] at q0; exact q0
  clear x1 x2 x3 x4
  obtain ⟨_, e, xl, x1, x2, x3, x4⟩ := at_T36 HR.out ((l.length : Int) - 1) (by omega) (by omega)
  cases e
  clear x1 x2 x3 x4
  have hi : ((l.length : Int) - 1).toNat = l.length - 1 := by omega
  rw [hi] at xl
  obtain ⟨m, hm⟩ : ∃ m, m = (rd_T36 l ((l.length : Int) - 1)).f0 := ⟨_, rfl⟩
  have hl := H.hl
  rw [← hm] at hl xl
  have HH := Lib.hid H
  clear hi hm H
  have g1 : decide ((l.length : Int) < 1) = false := decide_eq_false (by omega)
  have g2 : decide (2000 < (l.length : Int)) = false := decide_eq_false (by omega)
  have g0 : 0 ≤ (l.length : Int) - 1 := by omega
  have z45 := zero45
  rcases hl with rfl | rfl | rfl
  all_goals
    go_enter Tryd.func13, Tryd.ntmps13
    go_wp2
    clear z45 q0 g1 g2 g0 xl
    go_loopw [5] (fun i wr => ∃ (k : Nat) (th : Int → Bool), k ≤ l.length ∧ i = .int .i64 k ∧ RRel l w k th wr) (fun i _ => l.length - (intOf i).toNat)
    case atStart => exact ⟨0, fun _ => false, Nat.zero_le _, rfl, rfl, There.new w, (Below.refl _ _).alloc (Nat.le_refl _) _⟩
    case round =>
      obtain ⟨k, th, hk, rfl, REL⟩ := hrel
      by_cases hlt : k < l.length
      · obtain ⟨_, e, x0, x1, x2, x3, x4⟩ := at_T36 HR.out (k : Int) (by omega) (by omega)
        cases e
        obtain ⟨n, hn⟩ : ∃ n, n = rd_T36 l (k : Int) := ⟨_, rfl⟩
        rw [← hn] at x0 x1 x2 x3 x4
        have HN := Lib.hid hn
        clear hn
        simp only [Int.toNat_natCast] at x0 x1 x2 x3 x4
        have NA : Hid (NodeAt w ad k n) := Lib.hid ⟨x0, x1, x2, x3, x4⟩
        clear x0 x1 x2 x3 x4
        obtain ⟨b0, b1, b2, b3, b4⟩ := NA.out.later REL.below
        have RR : Hid (RRd w th wr) := Lib.hid ⟨REL.there, REL.below⟩
        by_cases hf : formedB (conv n) = true
        · obtain ⟨⟨f10, f11⟩, _⟩ := formed_in hf
          replace f10 : 0 ≤ n.f1 := f10
          replace f11 : n.f1 < 256 := f11
          have F23 := rone23 n true hf
          obtain ⟨xs, hxs⟩ : ∃ xs, readsL (conv n) = xs := ⟨_, rfl⟩
          have F14 := rreads14 n xs hxs
          obtain ⟨r1, r2, hwr⟩ : ∃ r1 r2, writesP (conv n) = (r1, r2) := ⟨_, _, rfl⟩
          have F15 := rwrites15 n r1 r2 hwr
          obtain ⟨r10, r11⟩ : 0 ≤ r1 ∧ r1 < 256 := by have := writes_in hf; rw [hwr] at this; exact this
          have hin := reads_in hf
          rw [hxs] at hin
          have hxl : xs.length ≤ 3 := by rw [← hxs]; exact reads_len _
          have hnx : nextT th (conv n) = if r2 = true then upd th r1 else th := by unfold nextT; rw [hwr]
          have hst : stepB th (conv n) = (!(xs.any (fun t => !th t)) && !(tags3 n.f0 && !th n.f1)) := by
            rw [step_ref, hf, hxs]; rfl
          have HNX := Lib.hid hnx
          have HIN := Lib.hid hin
          have HST := Lib.hid hst
          clear hnx hin hst hwr hxs hf
          go_wp2_with (first | (go_at_call 23; refine (F23 _).mono ?_; rintro e w1 ⟨rfl, hb1⟩; have R1 := RR.out.later hb1; clear hb1; obtain ⟨c0, c1, c2, c3, c4⟩ := NA.out.later R1.below) | (go_at_call 14; refine (F14 _).mono ?_; rintro e w3 ⟨A3, k3, rfl, hk3, hC3, hb3⟩; have R3 := R1.later hb3; clear hb3; obtain ⟨d0, d1, d2, d3, d4⟩ := NA.out.later R3.below; have ct := R3.there.cell n.f1 f10 f11))
          obtain ⟨wo, ewo⟩ : ∃ wo : World, wo = w3 := ⟨_, rfl⟩
          subst ewo
          go_loop [7] (fun j => ∃ q : Nat, q ≤ xs.length ∧ j = .int .i64 q ∧ ∀ i, i < q → th (xs.getD i 0) = true) (fun j => xs.length - (intOf j).toNat)
          case atStart => exact ⟨0, Nat.zero_le _, rfl, fun i hi => absurd hi (by omega)⟩
          case round =>
            obtain ⟨q, hq, rfl, ha⟩ := hrel
            have HA := Lib.hid ha
            clear ha
            by_cases hql : q < xs.length
            · obtain ⟨adx, csx, rfl, _, hK, hcell⟩ := Kd.C_get hC3 0 q (by omega) (by omega)
              obtain ⟨t, et⟩ : ∃ t, t = xs.getD q 0 := ⟨_, rfl⟩
              have hcl : wo.cell? (adx.add q) = some (.int .i64 t) := by
                have := hcell 0 (.int .i64 t) (by rw [hK, et]; rfl)
                have e : (Kd.int .i64).sz = 1 := rfl
                rw [e] at this
                simpa using this
              obtain ⟨t0, t1⟩ := HIN.out q hql
              rw [← et] at t0 t1
              have tc := R3.there.cell t t0 t1
              have ET := Lib.hid et
              have HC3 := Lib.hid hC3
              clear hcell hK et hC3
              by_cases ht : th t = true
              · go_wp2
                go_round
                case rel => exact ⟨q + 1, by omega, by go_num, fun i hi => by
                  rcases (by omega : i < q ∨ i = q) with h | h
                  · exact HA.out i h
                  · rw [h, ← ET.out]; exact ht⟩
                case measure => simp [intOf]; omega
              · replace ht : th t = false := by simpa using ht
                have han : xs.any (fun t => !th t) = true := by
                  rw [List.any_eq_true]
                  refine ⟨t, ?_, by rw [ht]; rfl⟩
                  rw [ET.out, List.getD_eq_getElem?_getD, List.getElem?_eq_getElem hql]
                  exact List.getElem_mem hql
                have NO := Lib.hid (rgood_no HH.out REL hlt HN.out (show stepB th (conv n) = false by rw [HST.out, han]; rfl))
                clear han
                go_wp2
                go_ret
                exact ⟨by rw [NO.out]; rfl, R3.below⟩
            · have hqe : q = xs.length := by omega
              have HQE := Lib.hid hqe
              have hno : xs.any (fun t => !th t) = false := by
                rw [List.any_eq_false]
                intro x hx
                obtain ⟨j, hj, rfl⟩ := List.getElem_of_mem hx
                have := HA.out j (by omega)
                rw [List.getD_eq_getElem?_getD, List.getElem?_eq_getElem hj] at this
                simp at this
                simp [this]
              have HNO := Lib.hid hno
              clear hno hqe
              have HC3 := Lib.hid hC3
              clear hC3
              obtain ⟨tv, etv⟩ : ∃ b, th n.f1 = b := ⟨_, rfl⟩
              rw [etv] at ct
              have ETV := Lib.hid etv
              clear etv
              have cases4 : (n.f0 == 14) = true ∨ ((n.f0 == 14) = false ∧ (n.f0 == 16) = true) ∨ ((n.f0 == 14) = false ∧ (n.f0 == 16) = false ∧ (n.f0 == 17) = true) ∨ ((n.f0 == 14) = false ∧ (n.f0 == 16) = false ∧ (n.f0 == 17) = false) := by
                cases (n.f0 == 14) <;> cases (n.f0 == 16) <;> cases (n.f0 == 17) <;> simp
              obtain ⟨tg, etg⟩ : ∃ b, tags3 n.f0 = b := ⟨_, rfl⟩
              have case3 : (tg = true ∧ ((n.f0 == 14) = true ∨ ((n.f0 == 14) = false ∧ (n.f0 == 16) = true) ∨ ((n.f0 == 14) = false ∧ (n.f0 == 16) = false ∧ (n.f0 == 17) = true))) ∨ (tg = false ∧ (n.f0 == 14) = false ∧ (n.f0 == 16) = false ∧ (n.f0 == 17) = false) := by
                rw [← etg]
                unfold tags3
                rcases cases4 with h | ⟨h, h'⟩ | ⟨h, h', h''⟩ | ⟨h, h', h''⟩ <;> simp [*]
              have ETG := Lib.hid etg
              clear etg cases4
              rcases case3 with ⟨rfl, hop⟩ | ⟨rfl, o14, o16, o17⟩
              · cases tv with
                | false =>
                  have NO := Lib.hid (rgood_no HH.out REL hlt HN.out (show stepB th (conv n) = false by rw [HST.out, ETG.out, ETV.out]; simp))
                  rcases hop with o14 | ⟨o14, o16⟩ | ⟨o14, o16, o17⟩
                  all_goals
                    go_wp2
                    go_ret
                    exact ⟨by rw [NO.out]; rfl, R3.below⟩
                | true =>
                  have YES := Lib.hid (fun (wx : World) => rrel_next (wx := wx) REL hlt HN.out (show stepB th (conv n) = true by rw [HST.out, HNO.out, ETV.out]; simp))
                  rcases hop with o14 | ⟨o14, o16⟩ | ⟨o14, o16, o17⟩
                  all_goals cases r2
                  all_goals
                    go_wp2_with (first | (go_at_call 15; refine (F15 _).mono ?_; rintro e w5 ⟨rfl, hb5⟩; have R5 := R3.later hb5; clear hb5; have hs5 := R5.there.cell r1 r10 r11; have hf5 := R5.there.free r1.toNat))
                    go_roundw
                    case rel => exact ⟨k + 1, nextT th (conv n), by omega, by go_num, YES.out _ (by rw [HNX.out]; first | exact R5.there | exact R5.there.set r1 r10 r11) (by first | exact R5.below | exact R5.below.setCell (Nat.le_refl _) _)⟩
                    case measure => simp [intOf]; omega
              · have YES := Lib.hid (fun (wx : World) => rrel_next (wx := wx) REL hlt HN.out (show stepB th (conv n) = true by rw [HST.out, HNO.out, ETG.out]; simp))
                cases r2
                all_goals
                  go_wp2_with (first | (go_at_call 15; refine (F15 _).mono ?_; rintro e w5 ⟨rfl, hb5⟩; have R5 := R3.later hb5; clear hb5; have hs5 := R5.there.cell r1 r10 r11; have hf5 := R5.there.free r1.toNat))
                  go_roundw
                  case rel => exact ⟨k + 1, nextT th (conv n), by omega, by go_num, YES.out _ (by rw [HNX.out]; first | exact R5.there | exact R5.there.set r1 r10 r11) (by first | exact R5.below | exact R5.below.setCell (Nat.le_refl _) _)⟩
                  case measure => simp [intOf]; omega
        · replace hf : formedB (conv n) = false := by simpa using hf
          have NO := rgood_no HH.out REL hlt HN.out (show stepB th (conv n) = false by unfold stepB; rw [hf]; rfl)
          have F23 := rone23 n false hf
          have NO' := Lib.hid NO
          clear NO hf
          go_wp2_with (first | (go_at_call 23; refine (F23 _).mono ?_; rintro e w1 ⟨rfl, hb1⟩; have R1 := RR.out.later hb1; clear hb1; obtain ⟨c0, c1, c2, c3, c4⟩ := NA.out.later R1.below))
          go_ret
          exact ⟨by rw [NO'.out]; rfl, R1.below⟩
      · have he : k = l.length := by omega
        subst he
        have E := Lib.hid (rgood_yes HH.out REL)
        have RB := REL.below
        clear hk
        go_wp2
        go_ret
        exact ⟨by rw [E.out]; rfl, RB⟩
end Go.Proofs.YtefijnbhdjpfpaaDoor.Ir
