/- slices.Collect(maps.Keys(m)). -/
import Derived.Test.YtnmfmcjgjjanfaaSeq
namespace Go.Proofs.Ytnmfmcjgjjanfaa.Cache
open Go Go.RowKit Go.Shelf Go.Proofs.YtnmfmcjgjjanfaaW.PrintWords Go.Proofs.YtnmfmcjgjjanfaaW.PrintLast Go.Proofs.YtnmfmcjgjjanfaaW.PrintMore Go.Proofs.Ytnmfmcjgjjanfaa.Pr Go.Proofs.Ytnmfmcjgjjanfaa.Lits
set_option linter.unusedVariables false
set_option linter.unusedSimpArgs false
section
variable {w : World} {Bm mb clock : Nat} {es : Array MapEntry} {ks : List K}
theorem maps_keys (mb : Nat) (w : World) : Calls Try.prog 30 #[.map (some mb)] w fun e w' => e = .returned (.func (.func 40) #[] #[.pointer (some ⟨w.heap.size, 0, none⟩)]) ∧ w' = w.alloc (.cells #[.map (some mb)] 67) := by
  go_enter Try.func30, Try.ntmps30
  go_wp2
  go_ret
  exact ⟨rfl, rfl⟩
def CollE (ks : List K) (w : World) (e : Ending) (w' : World) : Prop := ∃ (v : Value) (ss : List K), e = .returned v ∧ ss.Perm ks ∧ w'.ownsRow w.heap.size 75 2 v ss.length (rowOf ss) ∧ Below w.heap.size w w'
theorem appendSeq_any (hBm : Bm < w.heap.size) (hm : w.cell? ⟨Bm, 0, none⟩ = some (.map (some mb))) (hmp : w.heap[mb]? = some (.map es clock)) (hbn : Born es clock) (hks : es.toList.map (·.key) = ks.map kv) (hlen : ks.length ≤ 100000) :
    Calls Try.prog 39 #[.slice none 0 0, .func (.func 40) #[] #[.pointer (some ⟨Bm, 0, none⟩)]] w (CollE ks w) :=
  (callsIn_wide (n := 3)).1 (appendSeq_in _ 3 trivial trivial rfl (by omega) Bm mb clock es ks w hBm hm hmp hbn hks hlen)
theorem collect_any (hBm : Bm < w.heap.size) (hm : w.cell? ⟨Bm, 0, none⟩ = some (.map (some mb))) (hmp : w.heap[mb]? = some (.map es clock)) (hbn : Born es clock) (hks : es.toList.map (·.key) = ks.map kv) (hlen : ks.length ≤ 100000) :
    Calls Try.prog 29 #[.func (.func 40) #[] #[.pointer (some ⟨Bm, 0, none⟩)]] w (CollE ks w) := by
  have AP := appendSeq_any hBm hm hmp hbn hks hlen
  clear hm hmp hbn hks hlen
  go_enter Try.func29, Try.ntmps29
  go_wp2_with fail
  refine AP.mono ?_
  rintro e w' ⟨v, ss, rfl, h1, h2, h3⟩
  go_wp2
  go_ret
  exact ⟨v, ss, rfl, h1, h2, h3⟩
end
end Go.Proofs.Ytnmfmcjgjjanfaa.Cache
