/- The order of the keys as a row of one's own. -/
import Derived.Test.YtnmfmcjgjjanfaaClone
namespace Go.Proofs.Ytnmfmcjgjjanfaa.Cache
open Go Go.RowKit Go.Proofs.YtnmfmcjgjjanfaaW.PrintWords Go.Proofs.YtnmfmcjgjjanfaaW.PrintLast Go.Proofs.YtnmfmcjgjjanfaaW.PrintMore Go.Proofs.Ytnmfmcjgjjanfaa.Pr Go.Proofs.Ytnmfmcjgjjanfaa.Lits
set_option linter.unusedVariables false
set_option linter.unusedSimpArgs false
def kK : Kd K := Kd.pair (Kd.int .u32) (Kd.int .i64)
theorem kK_open {w : World} {base : Nat} {ok : Nat → Prop} {x : K} {cs : List Value} (h : kK.M w base ok x cs) : cs = [.int .u32 x.1, .int .i64 x.2] := by
  obtain ⟨_, _, rfl, rfl, rfl⟩ := h
  rfl
theorem kK_mk (w : World) (base : Nat) (ok : Nat → Prop) (x : K) : kK.M w base ok x [.int .u32 x.1, .int .i64 x.2] := ⟨[.int .u32 x.1], [.int .i64 x.2], rfl, rfl, rfl⟩
theorem info75 : (Try.prog.info? 75).map (fun i => (i.zero, i.size, i.bytes)) = some (some (.agg #[.int .u32 0, .int .i64 0]), 2, 16) := by kernel_rfl
theorem chunk2 (l : List Value) (i : Nat) (a b : Value) (h0 : l[i]? = some a) (h1 : l[i + 1]? = some b) : (l.drop i).take 2 = [a, b] := by
  have l1 : i + 1 < l.length := (List.getElem?_eq_some_iff.1 h1).1
  rw [List.drop_eq_getElem_cons (by omega), List.drop_eq_getElem_cons l1]
  rw [List.getElem?_eq_getElem (by omega)] at h0 h1
  simp [Option.some.inj h0, Option.some.inj h1]
section
variable {F : Nat → Prop} {w w1 : World} {ov : Value} {ks : List K}
theorem OrdAt.row (h : OrdAt F w ov ks) : Kd.R kK 75 w 0 F ov ks := by
  rcases h with ⟨rfl, rfl⟩ | ⟨g, cap, cur, rfl, hg, hb, hsz, hcap, hmax, hcur⟩
  · exact Kd.R_nil _ _ _ _ _
  · refine ⟨fun x hx => ?_, cur.toList.take (ks.length * 2), ⟨by show _ = ks.length * 2; simp; omega, .inr ⟨g, cap, cur, rfl, Nat.zero_le _, hb, hcap, hmax, hsz, rfl⟩⟩, ⟨by simp [kK, Kd.pair, Kd.int, Kd.scalar]; omega, fun j p hj => ?_⟩⟩
    · have : g = x := by simpa [Value.ownBlock] using hx
      rw [← this]; exact hg
    · obtain ⟨h0, h1⟩ := hcur j p hj
      have hl : j < ks.length := (List.getElem?_eq_some_iff.1 hj).1
      have e := chunk2 (cur.toList.take (ks.length * 2)) (j * 2) _ _ (by rw [List.getElem?_take, if_pos (by omega)]; simpa using h0) (by rw [List.getElem?_take, if_pos (by omega)]; simpa using h1)
      show kK.M _ _ _ _ ((List.drop (j * 2) _).take 2)
      rw [e]
      exact kK_mk _ _ _ _
theorem OrdAt.of {base : Nat} (h : Kd.R kK 75 w base F ov ks) : OrdAt F w ov ks := by
  obtain ⟨h0, inner, ⟨hl, ho⟩, hr⟩ := h
  rcases ho with ⟨rfl, hn⟩ | ⟨g, cap, cur, rfl, hg, hb, hcap, hmax, hsz, ht⟩
  · exact .inl ⟨rfl, List.length_eq_zero_iff.1 hn⟩
  · refine .inr ⟨g, cap, cur, rfl, h0 g (by simp [Value.ownBlock]), hb, hsz, hcap, hmax, fun i k hk => ?_⟩
    have hl : i < ks.length := (List.getElem?_eq_some_iff.1 hk).1
    have e : (inner.drop (i * 2)).take 2 = [.int .u32 k.1, .int .i64 k.2] := kK_open (hr.2 i k hk)
    have hs2 : cur.size = cap * 2 := hsz
    have ht2 : cur.toList.take (ks.length * 2) = inner := ht
    have f : ∀ q, q < 2 → cur[i * 2 + q]? = ((inner.drop (i * 2)).take 2)[q]? := fun q hq => by
      rw [List.getElem?_take, if_pos hq, List.getElem?_drop, ← ht2, List.getElem?_take, if_pos (by omega)]
      simp
    exact ⟨by rw [show i * 2 = i * 2 + 0 from rfl, f 0 (by decide), e]; rfl, by rw [f 1 (by decide), e]; rfl⟩
theorem OrdAt.own75 (h : OrdAt F w ov ks) {x : Nat} (hx : ov.ownBlock = some x) : F x ∧ ∃ cells, w.heap[x]? = some (.cells cells 75 (0, 0)) := by
  rcases h with ⟨rfl, rfl⟩ | ⟨g, cap, cur, rfl, hg, hb, _⟩
  · simp [Value.ownBlock] at hx
  · have : g = x := by simpa [Value.ownBlock] using hx
    subst this
    exact ⟨hg, cur, hb⟩
theorem Mod.of_grown {S : Nat → Prop} (hg : w.grownBy w1 ov.ownBlock) (hS : ∀ x, ov.ownBlock = some x → S x) : Mod S w w1 :=
  ⟨hg.os, hg.tape, hg.output, hg.size, fun k hk hn => hg.block k hk (fun e => hn (hS k e.symm))⟩
end
end Go.Proofs.Ytnmfmcjgjjanfaa.Cache
