/- The row of IrSays over a walk of this session's own: for every input the call answers true and each argument reads as it did. -/
import Derived.Test.YtefijnbhdjpfpaaDoorRows
import Derived.Test.YtefijnbhdjpfpaaDoorCards
import Derived.Test.YtefijnbhdjpfpaaDoorTie
import Derived.Test.YtefijnbhdjpfpaaDoorDoor
import Derived.LaidMore
import Derived.Stop.Joined
import Derived.SevenTiedAt
import Derived.Test.YtefijnbhdjpfpaaDoorOpenT
import Derived.Test.YtefijnbhdjpfpaaDoorIrSays
import Derived.WalkKit
import Derived.ProofKit
import Derived.OpenShut
import Derived.ShutString
import Derived.ChangeOld
import Derived.Below
import Derived.SizedLaws
import Derived.Carry
namespace Go.Proofs.YtefijnbhdjpfpaaDoor.irSays
open Go.ChangeShapes Go.WideShapes Go.ChangeAt Go.RowKit Go.Proofs.YtefijnbhdjpfpaaDoor.Open Go.Proofs.YtefijnbhdjpfpaaDoor.OpenT
open Go.ChangeMaps (open_string shut_string)
set_option linter.unusedVariables false
theorem own : ownKnob Tryd.prog.godebug = none := by kernel_rfl
theorem laidOut : laidOutB Tryd.prog = true := by kernel_rfl
set_option maxRecDepth 100000 in
theorem lifted (os : Os) (started : os.Started) (H : Type) (enc : TypeId × Value → H) :
    ReturnsInHanded {} Tryd.checked os 4 .any (fun w args => (Rows.irSaysSpec.pre enc Tryd.prog Tryd.f4 [] false w args ∧ laidMetH Tryd.prog Rows.irSaysRow.laid w) ∧ sizedMet enc Tryd.prog Tryd.f4 (OpenSpec.ofChange Rows.irSaysSpec) false w args) (Rows.irSaysSpec.post enc Tryd.prog Tryd.f4 false true false false) := by
  refine returnsInHanded_of_change_and (C := Tryd.checked) (X := (fun w _ => laidMetH Tryd.prog Rows.irSaysRow.laid w)) (fun _ _ _ hh h => h.of_heap hh) own started (by kernel_rfl) Tryd.func4
    (ChangeSpec.witness_shaped (enc := enc) (C := Tryd.checked) (os := os) (X := (fun w _ => laidMetH Tryd.prog Rows.irSaysRow.laid w)) false (World.doorLaid Tryd.prog 24 os) #[.slice none 0 0] 8 rfl (World.shaped_of_RefB (by kernel_rfl) (by kernel_rfl)) (by kernel_rfl) (by kernel_rfl) (by kernel_rfl) (Go.Proofs.YtefijnbhdjpfpaaDoor.Door.door_met os _)) ?_
  intro W base args ds gs before hval0 hW _ _ hL _
  have hval : ∀ (j : Nat) t v, Tryd.f4.params[j]? = some t → args[j]? = some v → Value.okWide Tryd.prog W .any base t v := hval0
  have hW' := hW
  obtain ⟨p, q, hA0, hV, rfl, hfz, hnd⟩ := hW
  have hA : DataW.TrodAll enc Tryd.prog W 0 (fun _ => true) true Tryd.f4.params.toList args.toList ds p := hA0
  rw [Tryd.params4] at hA hval
  obtain ⟨v0, vs0, d0, ds0, p0, q0, hargs, rfl, rfl, h0, r0⟩ := trodAll_cons hA
  obtain ⟨rfl, rfl, rfl⟩ := trodAll_nil r0
  obtain rfl : args = #[v0] := by cases args; simp_all
  obtain ⟨rfl, rfl⟩ := trodVars_none hV
  have lt0 : ∀ x ∈ p0, x.block < W.heap.size := by obtain ⟨m, hm⟩ := h0; exact DataW.trod_lt m _ _ _ hm
  obtain ⟨A0, len0, cap0, rfl⟩ := okWide_slice Tryd.underlying31 (hval 0 31 v0 rfl rfl)
  obtain ⟨x0, kx0, wx0⟩ := trod_one (gv31 W) rfl h0
  obtain ⟨A0_0, c0_0, e0, l0_0, r0_0⟩ := fl31 kx0
  simp only [List.cons.injEq, Value.slice.injEq, and_true] at e0
  obtain ⟨rfl, rfl, rfl⟩ := e0
  clear hA0 hval0
  have hLaid : Go.Proofs.YtefijnbhdjpfpaaDoor.Door.Laid W := Go.Proofs.YtefijnbhdjpfpaaDoor.Door.of_laid hL
  refine (Go.Proofs.YtefijnbhdjpfpaaDoor.IrSays.walk W hLaid x0 wx0 A0 cap0 l0_0 r0_0).mono fun e W' ⟨he, bel⟩ => ?_
  subst he
  exact ⟨_, rfl, _, _, _, [], _, [], hW', trodAll_mk1 (shut_bool Tryd.underlying4 _), (trodAll_cons_mk (Below.trod laidOut (by kernel_rfl) (of_decide_eq_true (by kernel_rfl)) h0 bel lt0) trodAll_mk0), rfl, bel.frame _, fun h => by cases h⟩
theorem over : Rows.irSaysRow.holds Tryd.pinned (OpenSpec.ofChange Rows.irSaysSpec) :=
  OpenClaim.holds_of_wide 4 Tryd.f4 rfl rfl rfl rfl rfl rfl rfl ⟨rfl, rfl, rfl, rfl, rfl⟩ rfl rfl rfl rfl rfl (by kernel_rfl) Tryd.func4 (by kernel_rfl)
    (of_decide_eq_true (by kernel_rfl)) (by unfold Func.isWrapper; first | (rw [if_pos (by decide +kernel)]; kernel_rfl) | (rw [if_neg (by decide +kernel)]; exact ⟨rfl, rfl⟩))
    (fun os started H enc _ => lifted os started H enc)
theorem proved : Rows.IrSaysSaid := over
theorem card : Rows.IrSaysCardSaid :=
  Claim7.holds_tied_plain_at .later [] [.data, .data, .data] true (true, "6e6da21c0dcfe14c6e27edaf3b3f8c4604a1c6372409a691f1798c4666348728") false
    proved (fun _ h => by cases h) (by kernel_rfl) (fun _ h => by cases h) Go.Proofs.YtefijnbhdjpfpaaDoor.irSays_row_tie rfl ⟨rfl, rfl⟩ (by kernel_rfl) rfl
    (fun f fn hf hfn => by
      obtain rfl : f = 4 := Option.some.inj ((show Tryd.prog.funcNamed "tincture/tincturelaw19.IrSays" = some 4 by kernel_rfl).symm.trans hf) |>.symm
      obtain rfl : fn = Tryd.f4 := (Option.some.inj (Tryd.func4.symm.trans hfn)).symm
      exact ⟨by kernel_rfl, fun j t ht => by
        rw [Tryd.params4] at ht
        have h : t = 31 := by
          match j, ht with
          | 0, ht => (simp at ht; subst ht; simp)
          | k + 1, ht => simp at ht
        subst h
        exact (show Tryd.prog.wantsStandIn 31 = false by kernel_rfl)⟩)
    (by kernel_rfl)
end Go.Proofs.YtefijnbhdjpfpaaDoor.irSays
namespace Go.Proofs.YtefijnbhdjpfpaaDoor
/-- The row, under a short name, for the claim. -/
theorem irSays_holds : Rows.IrSaysCardSaid := irSays.card
end Go.Proofs.YtefijnbhdjpfpaaDoor
