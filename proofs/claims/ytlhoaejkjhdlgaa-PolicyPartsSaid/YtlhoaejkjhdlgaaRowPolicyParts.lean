/- The row of PolicyParts over a walk of this session's own: for every input the call answers true and each argument reads as it did. -/
import Derived.Test.YtlhoaejkjhdlgaaRows
import Derived.Test.YtlhoaejkjhdlgaaOpenTPolicyBytes
import Derived.Test.YtlhoaejkjhdlgaaPolicyParts
import Derived.WalkKit
import Derived.ProofKit
import Derived.OpenShut
import Derived.ShutString
import Derived.ChangeOld
import Derived.Below
import Derived.SizedLaws
import Derived.Carry
namespace Go.Proofs.Ytlhoaejkjhdlgaa.policyParts
open Go.ChangeShapes Go.WideShapes Go.ChangeAt Go.RowKit Go.Proofs.Ytlhoaejkjhdlgaa.Open Go.Proofs.Ytlhoaejkjhdlgaa.OpenTPolicyBytes
open Go.ChangeMaps (open_string shut_string)
set_option linter.unusedVariables false
theorem own : ownKnob Try.prog.godebug = none := by kernel_rfl
theorem laidOut : laidOutB Try.prog = true := by kernel_rfl
set_option maxRecDepth 100000 in
theorem lifted (os : Os) (started : os.Started) (H : Type) (enc : TypeId × Value → H) :
    ReturnsInHanded {} Try.checked os 8 .any (Rows.policyPartsSpec.pre6 enc Try.prog Try.f8 Rows.policyPartsRow.domain false) (Rows.policyPartsSpec.post enc Try.prog Try.f8 false true false false) := by
  refine returnsInHanded_of_change_sized (C := Try.checked) own started (by kernel_rfl) Try.func8
    (ChangeSpec.witness6 (enc := enc) (C := Try.checked) false ⟨#[], #[.agg #[.bool false, .slice none 0 0, .slice none 0 0], .agg #[.bool false, .slice none 0 0, .slice none 0 0], .int .i64 0, .int .u32 0, .int .u8 0], []⟩ 8 (by kernel_rfl) (by kernel_rfl) (by kernel_rfl) (by kernel_rfl)) ?_
  intro W base args ds gs before hval0 hW hcnd hsz0 _
  have hval : ∀ (j : Nat) t v, Try.f8.params[j]? = some t → args[j]? = some v → Value.okWide Try.prog W .any base t v := hval0
  have hW' := hW
  obtain ⟨p, q, hA0, hV, rfl, hfz, hnd⟩ := hW
  have hA : DataW.TrodAll enc Try.prog W 0 (fun _ => true) true Try.f8.params.toList args.toList ds p := hA0
  rw [Try.params8] at hA hval
  obtain ⟨v0, vs0, d0, ds0, p0, q0, hargs, rfl, rfl, h0, r0⟩ := trodAll_cons hA
  obtain ⟨v1, vs1, d1, ds1, p1, q1, rfl, rfl, rfl, h1, r1⟩ := trodAll_cons r0
  obtain ⟨v2, vs2, d2, ds2, p2, q2, rfl, rfl, rfl, h2, r2⟩ := trodAll_cons r1
  obtain ⟨v3, vs3, d3, ds3, p3, q3, rfl, rfl, rfl, h3, r3⟩ := trodAll_cons r2
  obtain ⟨v4, vs4, d4, ds4, p4, q4, rfl, rfl, rfl, h4, r4⟩ := trodAll_cons r3
  obtain ⟨rfl, rfl, rfl⟩ := trodAll_nil r4
  obtain rfl : args = #[v0, v1, v2, v3, v4] := by cases args; simp_all
  obtain ⟨rfl, rfl⟩ := trodVars_none hV
  have lt0 : ∀ x ∈ p0, x.block < W.heap.size := by obtain ⟨m, hm⟩ := h0; exact DataW.trod_lt m _ _ _ hm
  obtain ⟨cs0, rfl, _⟩ := okWide_agg (.inl ⟨_, Try.underlying26⟩) (hval 0 26 v0 rfl rfl)
  obtain ⟨x0, kx0, wx0⟩ := trod_agg (gv26 W) h0
  obtain ⟨A0_0, c0_0, A0_1, c0_1, e0, l0_0, r0_0, l0_1, r0_1⟩ := fl26 kx0
  obtain rfl := arr_of_list e0
  have lt1 : ∀ x ∈ p1, x.block < W.heap.size := by obtain ⟨m, hm⟩ := h1; exact DataW.trod_lt m _ _ _ hm
  obtain ⟨cs1, rfl, _⟩ := okWide_agg (.inl ⟨_, Try.underlying26⟩) (hval 1 26 v1 rfl rfl)
  obtain ⟨x1, kx1, wx1⟩ := trod_agg (gv26 W) h1
  obtain ⟨A1_0, c1_0, A1_1, c1_1, e1, l1_0, r1_0, l1_1, r1_1⟩ := fl26 kx1
  obtain rfl := arr_of_list e1
  have lt2 : ∀ x ∈ p2, x.block < W.heap.size := by obtain ⟨m, hm⟩ := h2; exact DataW.trod_lt m _ _ _ hm
  have hh2 := h2
  obtain ⟨x2, rfl, _, _, wx2⟩ := open_int Try.underlying3 (hval 2 3 v2 rfl rfl) hh2
  have lt3 : ∀ x ∈ p3, x.block < W.heap.size := by obtain ⟨m, hm⟩ := h3; exact DataW.trod_lt m _ _ _ hm
  have hh3 := h3
  obtain ⟨x3, rfl, _, _, wx3⟩ := open_int Try.underlying33 (hval 3 33 v3 rfl rfl) hh3
  have lt4 : ∀ x ∈ p4, x.block < W.heap.size := by obtain ⟨m, hm⟩ := h4; exact DataW.trod_lt m _ _ _ hm
  have hh4 := h4
  obtain ⟨x4, rfl, _, _, wx4⟩ := open_int Try.underlying5 (hval 4 5 v4 rfl rfl) hh4
  clear hA0 hval0 hsz0
  refine (Go.Proofs.Ytlhoaejkjhdlgaa.PolicyParts.walk W x0 wx0 A0_0 c0_0 l0_0 r0_0 A0_1 c0_1 l0_1 r0_1 x1 wx1 A1_0 c1_0 l1_0 r1_0 A1_1 c1_1 l1_1 r1_1 x2 wx2 x3 wx3 x4 wx4).mono fun e W' ⟨he, bel⟩ => ?_
  subst he
  exact ⟨_, rfl, _, _, _, [], _, [], hW', trodAll_mk1 (shut_bool Try.underlying4 _), (trodAll_cons_mk (Below.trod laidOut (by kernel_rfl) (of_decide_eq_true (by kernel_rfl)) h0 bel lt0) (trodAll_cons_mk (Below.trod laidOut (by kernel_rfl) (of_decide_eq_true (by kernel_rfl)) h1 bel lt1) (trodAll_cons_mk (Below.trod laidOut (by kernel_rfl) (of_decide_eq_true (by kernel_rfl)) h2 bel lt2) (trodAll_cons_mk (Below.trod laidOut (by kernel_rfl) (of_decide_eq_true (by kernel_rfl)) h3 bel lt3) (trodAll_cons_mk (Below.trod laidOut (by kernel_rfl) (of_decide_eq_true (by kernel_rfl)) h4 bel lt4) trodAll_mk0))))), rfl, bel.frame _, fun h => by cases h⟩
theorem over : Rows.policyPartsRow.holds Try.pinned (OpenSpec.ofChange Rows.policyPartsSpec) :=
  OpenClaim.holds_of_wide 8 Try.f8 rfl rfl rfl rfl rfl rfl rfl ⟨rfl, rfl, rfl, rfl, rfl⟩ rfl rfl rfl rfl rfl (by kernel_rfl) Try.func8 (by kernel_rfl)
    (of_decide_eq_true (by kernel_rfl)) (by unfold Func.isWrapper; first | (rw [if_pos (by decide +kernel)]; kernel_rfl) | (rw [if_neg (by decide +kernel)]; exact ⟨rfl, rfl⟩))
    (fun os started H enc _ => lifted os started H enc)
theorem proved : Rows.PolicyPartsSaid := over
end Go.Proofs.Ytlhoaejkjhdlgaa.policyParts
namespace Go.Proofs.Ytlhoaejkjhdlgaa
/-- The row, under a short name, for the claim. -/
theorem policyParts_holds : Rows.PolicyPartsSaid := policyParts.proved
end Go.Proofs.Ytlhoaejkjhdlgaa
