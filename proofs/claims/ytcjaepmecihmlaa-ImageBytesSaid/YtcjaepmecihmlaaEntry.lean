/- Where a program may begin: the walks of image.Image.entry, of what it asks of each segment, and of slices.ContainsFunc, IndexFunc as it calls them. -/
import Derived.Test.YtcjaepmecihmlaaI0
import Derived.WalkKit
import Derived.Outline
namespace Go.Proofs.Ytcjaepmecihmlaa.Entry
open Go Go.RowKit Go.Proofs.Ytcjaepmecihmlaa.Img Go.Proofs.YtcjaepmecihmlaaW.PrintWords Go.Proofs.YtcjaepmecihmlaaW.PrintLast Go.Proofs.YtcjaepmecihmlaaW.PrintMore
set_option linter.unusedVariables false
set_option linter.unusedSimpArgs false
/-- A segment holds an address and may be run. -/
def inSeg (e : Int) (s : S30) : Bool := Go.bits .and .i64 s.f2 4 != 0 && (decide (e ≥ s.f0) && decide (IntKind.u64.wrap e < IntKind.u64.wrap (IntKind.u64.wrap s.f0 + IntKind.u64.wrap s.f1)))
set_option maxHeartbeats 2000000 in
set_option maxRecDepth 100000 in
theorem clo (W : World) (g : Nat) (e : Int) (A : Option Addr) (n c : Nat) (s : S30) (v : Value) (h : W.heap[g]? = some (.cells #[.int .u32 e, .slice A n c] 26 (0, 0))) :
    Calls Try.prog 37 #[.agg #[.int .u32 s.f0, .int .u32 s.f1, .int .i64 s.f2, v], .pointer (some ⟨g, 0, none⟩)] W fun e' w' => e' = .returned (.bool (inSeg e s)) ∧ Below W.heap.size W w' := by
  have hu30 := Try.underlying30
  have h0 : ∀ o, (W.alloc o).cell? ⟨g, 0, none⟩ = some (.int .u32 e) := fun o => (zai (zad h o) 0).trans rfl
  have b0 := zab (Below.refl W.heap.size W)
  go_enter Try.func37, Try.ntmps37
  by_cases c1 : Go.bits .and .i64 s.f2 4 = 0
  · go_wp2
    go_ret
    exact ⟨by simp [inSeg, c1], b0 _⟩
  · by_cases c2 : e ≥ s.f0
    · go_wp2
      go_ret
      exact ⟨by simp [inSeg, c1, c2], b0 _⟩
    · go_wp2
      go_ret
      exact ⟨by have c2' : ¬ s.f0 ≤ e := (by omega); simp [inSeg, c1, c2'], b0 _⟩
set_option maxHeartbeats 2000000 in
set_option maxRecDepth 100000 in
theorem index (W : World) (g : Nat) (e : Int) (A : Option Addr) (c : Nat) (xs : List S30) (As : Option Addr) (cs : Nat) (h : W.heap[g]? = some (.cells #[.int .u32 e, .slice As xs.length cs] 26 (0, 0))) (hr : Kd.C k30 W A xs.length xs) (hc : xs.length ≤ c) (hn : xs.length ≤ 1000000) :
    Calls Try.prog 38 #[.slice A xs.length c, .func (Fn.func 37) #[] #[.pointer (some ⟨g, 0, none⟩)]] W fun e' w' => ∃ i : Int, e' = .returned (.int .i64 i) ∧ decide (i ≥ 0) = xs.any (inSeg e) ∧ Below W.heap.size W w' := by
  have hu24 := Try.underlying24
  have hu30 := Try.underlying30
  have R := Aside0.mk hr; have H := Aside0.mk h; clear hr h
  go_enter Try.func38, Try.ntmps38
  go_wp2
  go_loopw [8] (fun i wr => ∃ j : Int, 0 ≤ j ∧ j ≤ xs.length ∧ i = .int .i64 j ∧ Aside0 (Below W.heap.size W wr ∧ ∀ s ∈ xs.take j.toNat, inSeg e s = false)) (fun i _ => (xs.length - intOf i).toNat)
  case atStart => exact ⟨0, by omega, by omega, rfl, ⟨Below.refl _ _, by simp⟩⟩
  case round =>
    obtain ⟨j, hj0, hj, rfl, hI⟩ := hrel
    by_cases hlt : j < xs.length
    · obtain ⟨ad, A3, c3, rfl, q0, q1, q2, q3, -, -⟩ := zd4 (Kd.za7 R.out hI.out.1) j hj0 hlt
      have d1 : decide (j < 0) = false := decide_eq_false (by omega)
      have d2 : decide ((xs.length : Int) ≤ j) = false := decide_eq_false (by omega)
      go_wp2_with fail
      refine (clo _ g e As xs.length cs (zan xs j) _ (zaq H.out hI.out.1)).mono ?_
      rintro e' w1 ⟨rfl, hb⟩
      have HB := Aside0.mk (zam hI.out.1 hb)
      clear hb q0 q1 q2 q3
      have hk : j.toNat < xs.length := by omega
      have ex : zan xs j = xs[j.toNat] := by simp [zan, hk]
      by_cases c1 : inSeg e (zan xs j) = true
      · rw [c1]
        go_wp2
        go_ret
        refine ⟨j, rfl, ?_, HB.out⟩
        have : xs.any (inSeg e) = true := List.any_eq_true.2 ⟨_, List.getElem_mem hk, by rw [← ex]; exact c1⟩
        rw [this]; simp; omega
      · have c2 : inSeg e (zan xs j) = false := by simpa using c1
        rw [c2]
        go_wp2
        go_roundw
        case rel =>
          refine ⟨j + 1, by omega, by omega, by go_num, ⟨HB.out, fun s hs => ?_⟩⟩
          have e1 : (j + 1).toNat = j.toNat + 1 := by omega
          rw [e1, List.take_succ_eq_append_getElem hk] at hs
          rcases List.mem_append.1 hs with hs | hs
          · exact hI.out.2 s hs
          · rw [List.mem_singleton.1 hs, ← ex]; exact c2
        case measure => simp [intOf]; omega
    · have hj1 : j = xs.length := by omega
      go_wp2
      go_ret
      refine ⟨-1, rfl, ?_, hI.out.1⟩
      have : xs.any (inSeg e) = false := List.any_eq_false.2 fun s hs => by
        have := hI.out.2 s (by rw [hj1, Int.toNat_natCast, List.take_length]; exact hs)
        simp [this]
      rw [this]; rfl
set_option maxHeartbeats 2000000 in
set_option maxRecDepth 100000 in
theorem contains (W : World) (g : Nat) (e : Int) (A : Option Addr) (c : Nat) (xs : List S30) (As : Option Addr) (cs : Nat) (h : W.heap[g]? = some (.cells #[.int .u32 e, .slice As xs.length cs] 26 (0, 0))) (hr : Kd.C k30 W A xs.length xs) (hc : xs.length ≤ c) (hn : xs.length ≤ 1000000) :
    Calls Try.prog 36 #[.slice A xs.length c, .func (Fn.func 37) #[] #[.pointer (some ⟨g, 0, none⟩)]] W fun e' w' => e' = .returned (.bool (xs.any (inSeg e))) ∧ Below W.heap.size W w' := by
  go_enter Try.func36, Try.ntmps36
  go_wp2_with fail
  refine (index W g e A c xs As cs h hr hc hn).mono ?_
  rintro e' w1 ⟨i, rfl, hi, hb⟩
  clear h hr
  go_wp2
  go_ret
  exact ⟨by rw [← hi]; first | rfl | simp, hb⟩
def zeh (e : Int) (xs : List S30) : Bool := xs.any (inSeg e) && Int.tmod e 4 == 0
set_option maxHeartbeats 2000000 in
set_option maxRecDepth 100000 in
theorem entry (W : World) (e : Int) (A : Option Addr) (c : Nat) (xs : List S30) (hr : Kd.C k30 W A xs.length xs) (hc : xs.length ≤ c) (hn : xs.length ≤ 1000000) :
    Calls Try.prog 27 #[.agg #[.int .u32 e, .slice A xs.length c]] W fun e' w' => e' = .returned (.bool (zeh e xs)) ∧ Below W.heap.size W w' := by
  have hu26 := Try.underlying26
  have hmf : ∀ (fn : Fn) (first cap : Array Value) (w : World), (Instr.makeFunc fn first cap).run Try.prog w = .ok (.func fn first cap) w := fun _ _ _ _ => rfl
  have R := Aside0.mk hr; clear hr
  go_enter Try.func27, Try.ntmps27
  go_wp2_with fail
  have hal := zab (Below.refl W.heap.size W) (.cells #[.int .u32 e, .slice A xs.length c] 26)
  have hg := zc5 W (.cells #[.int .u32 e, .slice A xs.length c] 26)
  refine (contains _ W.heap.size e A c xs A c hg (Kd.za7 R.out hal) hc hn).mono ?_
  rintro e' w1 ⟨rfl, hb⟩
  have HB := Aside0.mk (zam hal hb)
  have q0 : w1.cell? ⟨W.heap.size, 0, none⟩ = some (.int .u32 e) := (zai (zaq hg hb) 0).trans rfl
  clear hal hg hb hmf
  by_cases c1 : xs.any (inSeg e) = true
  · rw [c1]
    go_wp2
    go_ret
    exact ⟨by simp [zeh, c1], HB.out⟩
  · have c2 : xs.any (inSeg e) = false := by simpa using c1
    rw [c2]
    go_wp2
    go_ret
    exact ⟨by simp [zeh, c2], HB.out⟩
end Go.Proofs.Ytcjaepmecihmlaa.Entry
