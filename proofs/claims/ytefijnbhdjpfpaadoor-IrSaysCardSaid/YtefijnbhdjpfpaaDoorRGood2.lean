/- What the reference's Good answers, whatever the list. -/
import Derived.Test.YtefijnbhdjpfpaaDoorRGood
namespace Go.Proofs.YtefijnbhdjpfpaaDoor.Ir
open Go Go.RowKit Go.Proofs.YtefijnbhdjpfpaaDoorW.PrintWords Go.Proofs.YtefijnbhdjpfpaaDoorW.PrintLast Go.Proofs.YtefijnbhdjpfpaaDoorW.PrintMore
set_option linter.unusedVariables false
set_option linter.unusedSimpArgs false
set_option maxRecDepth 100000 in
set_option maxHeartbeats 4000000 in
theorem rgood_nil (A : Option Addr) (c : Nat) (w : World) : Calls Tryd.prog 13 #[.slice A 0 c] w fun e w' => e = .returned (.bool false) ∧ Below w.heap.size w w' := by
  go_enter Tryd.func13, Tryd.ntmps13
  go_wp2
  go_ret
  exact ⟨rfl, Below.refl _ _⟩
set_option maxRecDepth 100000 in
set_option maxHeartbeats 4000000 in
theorem rgood_long (A : Option Addr) (n c : Nat) (w : World) (h : 2000 < n) : Calls Tryd.prog 13 #[.slice A n c] w fun e w' => e = .returned (.bool false) ∧ Below w.heap.size w w' := by
  have g1 : decide ((n : Int) < 1) = false := decide_eq_false (by omega)
  have g2 : decide (2000 < (n : Int)) = true := decide_eq_true (by omega)
  clear h
  go_enter Tryd.func13, Tryd.ntmps13
  go_wp2
  go_ret
  exact ⟨rfl, Below.refl _ _⟩
set_option maxRecDepth 100000 in
set_option maxHeartbeats 4000000 in
theorem rgood_head (A : Option Addr) (c : Nat) (l : List S36) (w : World) (hr : Kd.C k36 w A l.length l) (h1 : 0 < l.length) (h2 : l.length ≤ 2000) (h8 : (rd_T36 l 0).f0 ≠ 8) :
    Calls Tryd.prog 13 #[.slice A l.length c] w fun e w' => e = .returned (.bool false) ∧ Below w.heap.size w w' := by
  obtain ⟨ad, rfl, q0, x1, x2, x3, x4⟩ := at_T36 hr 0 (by omega) (by omega)
  obtain ⟨m, hm⟩ : ∃ m, m = (rd_T36 l 0).f0 := ⟨_, rfl⟩
  rw [← hm] at q0 h8
  replace q0 : w.cell? ad = some (.int .i64 m) := by
    have e : ad.add (Int.toNat 0 * 5) = ad := by cases ad; simp [Addr.add]
    rw [e] at q0; exact q0
  clear x1 x2 x3 x4
  clear hr hm
  have g1 : decide ((l.length : Int) < 1) = false := decide_eq_false (by omega)
  have g2 : decide (2000 < (l.length : Int)) = false := decide_eq_false (by omega)
  have g3 : (m != 8) = true := bne_iff_ne.2 h8
  clear h8
  go_enter Tryd.func13, Tryd.ntmps13
  go_wp2
  go_ret
  exact ⟨rfl, Below.refl _ _⟩
set_option maxRecDepth 100000 in
set_option maxHeartbeats 4000000 in
theorem rgood_last (A : Option Addr) (c : Nat) (l : List S36) (w : World) (hr : Kd.C k36 w A l.length l) (h1 : 0 < l.length) (h2 : l.length ≤ 2000) (h8 : (rd_T36 l 0).f0 = 8)
    (hl : ¬ ((rd_T36 l ((l.length : Int) - 1)).f0 = 11 ∨ (rd_T36 l ((l.length : Int) - 1)).f0 = 12 ∨ (rd_T36 l ((l.length : Int) - 1)).f0 = 13)) :
    Calls Tryd.prog 13 #[.slice A l.length c] w fun e w' => e = .returned (.bool false) ∧ Below w.heap.size w w' := by
  obtain ⟨ad, rfl, q0, x1, x2, x3, x4⟩ := at_T36 hr 0 (by omega) (by omega)
  obtain ⟨m, hm⟩ : ∃ m, m = (rd_T36 l 0).f0 := ⟨_, rfl⟩
  rw [← hm] at q0 h8
  replace q0 : w.cell? ad = some (.int .i64 m) := by
    have e : ad.add (Int.toNat 0 * 5) = ad := by cases ad; simp [Addr.add]
    rw [e] at q0; exact q0
  clear x1 x2 x3 x4
  rw [h8] at q0
  clear hm h8
  obtain ⟨_, e, xl, x1, x2, x3, x4⟩ := at_T36 hr ((l.length : Int) - 1) (by omega) (by omega)
  cases e
  clear x1 x2 x3 x4
  have hi : ((l.length : Int) - 1).toNat = l.length - 1 := by omega
  rw [hi] at xl
  obtain ⟨m, hm⟩ : ∃ m, m = (rd_T36 l ((l.length : Int) - 1)).f0 := ⟨_, rfl⟩
  rw [← hm] at hl xl
  have m1 : (m != 11) = true := bne_iff_ne.2 (fun h => hl (Or.inl h))
  have m2 : (m != 12) = true := bne_iff_ne.2 (fun h => hl (Or.inr (Or.inl h)))
  have m3 : (m != 13) = true := bne_iff_ne.2 (fun h => hl (Or.inr (Or.inr h)))
  clear hl hm hi hr
  have g1 : decide ((l.length : Int) < 1) = false := decide_eq_false (by omega)
  have g2 : decide (2000 < (l.length : Int)) = false := decide_eq_false (by omega)
  have g0 : 0 ≤ (l.length : Int) - 1 := by omega
  go_enter Tryd.func13, Tryd.ntmps13
  go_wp2
  go_ret
  exact ⟨rfl, Below.refl _ _⟩
def tinctureref18_Good.f (l0 : List S36) : Option Bool := some (rgoodB l0)
theorem tinctureref18_Good.calls (A0 : Option Addr) (c0 : Nat) (l0 : List (S36)) (r : Bool) (w : World) (hr0 : Kd.C k36 w A0 l0.length l0) (hc0 : l0.length ≤ c0) (h : tinctureref18_Good.f l0 = some r) :
    Calls Tryd.prog 13 #[.slice A0 l0.length c0] w fun e w' => e = .returned (.bool r) ∧ Below w.heap.size w w' := by
  obtain rfl := Option.some.inj h
  by_cases h0 : l0.length < 1
  · have e : rgoodB l0 = false := by unfold rgoodB; rw [if_pos h0]
    rw [e, show l0.length = 0 by omega]
    exact rgood_nil A0 c0 w
  · by_cases h2 : 2000 < l0.length
    · have e : rgoodB l0 = false := by unfold rgoodB; rw [if_neg h0, if_pos h2]
      rw [e]
      exact rgood_long A0 _ c0 w h2
    · by_cases h8 : (rd_T36 l0 0).f0 = 8
      · by_cases hl : (rd_T36 l0 ((l0.length : Int) - 1)).f0 = 11 ∨ (rd_T36 l0 ((l0.length : Int) - 1)).f0 = 12 ∨ (rd_T36 l0 ((l0.length : Int) - 1)).f0 = 13
        · exact rgood_walk A0 c0 l0 w hr0 hc0 ⟨h0, h2, h8, hl⟩
        · have e : rgoodB l0 = false := by unfold rgoodB; rw [if_neg h0, if_neg h2, if_pos h8, if_neg hl]
          rw [e]
          exact rgood_last A0 c0 l0 w hr0 (by omega) (by omega) h8 hl
      · have e : rgoodB l0 = false := by unfold rgoodB; rw [if_neg h0, if_neg h2, if_neg h8]
        rw [e]
        exact rgood_head A0 c0 l0 w hr0 (by omega) (by omega) h8
/-- Both Goods agree. -/
theorem good_agrees (l : List S25) (k : List S36) (hk : k.map conv = l) : goodB l = rgoodB k := by
  have hl : l.length = k.length := by rw [← hk]; simp
  have hrd : ∀ i : Nat, i < k.length → rd_T25 l (i : Int) = conv (rd_T36 k (i : Int)) := by
    intro i hi
    unfold rd_T25 rd_T36
    rw [Int.toNat_natCast, List.getD_eq_getElem?_getD, List.getD_eq_getElem?_getD, ← hk, List.getElem?_map, List.getElem?_eq_getElem hi]
    rfl
  unfold goodB rgoodB
  rw [hl]
  by_cases h0 : k.length = 0
  · rw [if_pos h0, if_pos (by omega)]
  · rw [if_neg h0, if_neg (show ¬ k.length < 1 by omega)]
    by_cases h2 : 2000 < k.length
    · rw [if_pos h2, if_pos h2]
    · rw [if_neg h2, if_neg h2]
      have e0 : (rd_T25 l 0).f0 = (rd_T36 k 0).f0 := congrArg S25.f0 (hrd 0 (by omega))
      have e1 : (rd_T25 l ((k.length : Int) - 1)).f0 = (rd_T36 k ((k.length : Int) - 1)).f0 := by
        have := congrArg S25.f0 (hrd (k.length - 1) (by omega))
        rw [show (((k.length - 1 : Nat)) : Int) = (k.length : Int) - 1 by omega] at this
        exact this
      rw [e0]
      by_cases h8 : (rd_T36 k 0).f0 = 8
      · rw [if_pos h8, if_pos h8]
        unfold lastB
        rw [hl, e1, ← hk]
        by_cases hl : (rd_T36 k ((k.length : Int) - 1)).f0 = 11 ∨ (rd_T36 k ((k.length : Int) - 1)).f0 = 12 ∨ (rd_T36 k ((k.length : Int) - 1)).f0 = 13
        · rw [if_pos hl, decide_eq_true (by omega), decide_eq_true (by omega)]
          simp
        · rw [if_neg hl]
          by_cases h11 : (rd_T36 k ((k.length : Int) - 1)).f0 ≥ 11
          · rw [decide_eq_true h11, decide_eq_false (by omega)]; simp
          · rw [decide_eq_false h11]; simp
      · rw [if_neg h8, if_neg h8]
end Go.Proofs.YtefijnbhdjpfpaaDoor.Ir
