/- (*Cache).Clear. -/
import Derived.Test.YtnmfmcjgjjanfaaHas
namespace Go.Proofs.Ytnmfmcjgjjanfaa.Cache
open Go Go.RowKit Go.Proofs.YtnmfmcjgjjanfaaW.PrintWords Go.Proofs.YtnmfmcjgjjanfaaW.PrintLast Go.Proofs.YtnmfmcjgjjanfaaW.PrintMore Go.Proofs.Ytnmfmcjgjjanfaa.Pr Go.Proofs.Ytnmfmcjgjjanfaa.Lits
set_option linter.unusedVariables false
set_option linter.unusedSimpArgs false
section
variable {F : Nat → Prop} {P : Nat → Prop} {w : World} {ms : List En} {b : Nat} {most d h m : Int}
set_option maxRecDepth 100000 in
theorem clear_any (hh : Holds F b most d ms h m w) (hF : ∀ x, F x → x < w.heap.size) :
    Calls Try.prog 17 #[.pointer (some ⟨b, 0, none⟩)] w fun e w' => e = .returned (.tuple #[]) ∧ Holds (fun x => F x ∨ w.heap.size ≤ x) b most 1 [] h m w' ∧ Mod F w w' := by
  obtain ⟨hown, ⟨mv, ov, hb, hM, hO⟩, hone⟩ := hh
  have PL := place_any hb hM hO
  have HOWN := Lib.hid hown
  clear hb hM hO hown
  go_enter Try.func17, Try.ntmps17
  go_wp2_with fail
  refine PL.mono ?_
  clear PL
  rintro e w2 ⟨mb, rfl, p1, ⟨p2, es, clock, p3, p4, p4b⟩, p5, p6⟩
  have hwi := run_wipe p3 0
  have hne : b ≠ mb := fun e => by rw [e] at p1; rw [p1] at p3; cases p3
  have q1 : (putB w2 mb (.map #[] clock)).heap[b]? = some (cb most 1 (.map (some mb)) ov h m) := (putB_ne hne).trans p1
  have f5 : (putB w2 mb (.map #[] clock)).frozen? ⟨b, 5, none⟩ = false := blk_frozen q1 5
  have c5 : (putB w2 mb (.map #[] clock)).cell? ⟨b, 5, none⟩ = some ov := (blk_cell q1 5).trans rfl
  have FIN : Hid (Holds (fun x => F x ∨ w.heap.size ≤ x) b most 1 [] h m ((putB w2 mb (.map #[] clock)).setCell ⟨b, 5, none⟩ (.slice none 0 0)) ∧ Mod F w ((putB w2 mb (.map #[] clock)).setCell ⟨b, 5, none⟩ (.slice none 0 0))) := by
    refine Lib.hid ⟨⟨.inl HOWN.out, ⟨.map (some mb), .slice none 0 0, blk_put q1 5 _ rfl, .inr ⟨mb, rfl, rfl, p2, #[], clock, ?_, Ents.nil _ _, Born.nil _⟩, .inl ⟨rfl, rfl⟩⟩, by simp [One, keysOf]⟩, ?_⟩
    · exact (Below.heap_setCell _ _ _ _ (fun e => hne (by have e : mb = b := e; exact e.symm))).trans (putB_same (blk_lt p3))
    · exact ((p6.mono (fun x hx => by rw [hx]; exact HOWN.out)).put p2 _).set (.inl HOWN.out) _
  clear p1 p2 p3 p4 p5 p6 q1 hne
  go_wp2
  go_end0
  exact ⟨rfl, FIN.out⟩
theorem clear_has (hh : Has P b most d ms h m w) (hu : Up P w) :
    Calls Try.prog 17 #[.pointer (some ⟨b, 0, none⟩)] w fun e w' => e = .returned (.tuple #[]) ∧ Has P b most 1 [] h m w' ∧ Mod P w w' := by
  obtain ⟨F, h1, h2⟩ := hh
  refine (clear_any h2 (fun x hx => (h1 x hx).2)).mono ?_
  rintro e w' ⟨rfl, p1, p2⟩
  exact ⟨rfl, Has.of p1 (fun x hx _ => hx.elim (fun h => (h1 x h).1) (hu x)), p2.mono (fun x hx => (h1 x hx).1)⟩
end
end Go.Proofs.Ytnmfmcjgjjanfaa.Cache
