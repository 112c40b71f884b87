/- ImageBytes: any bytes are an image or none, any image is bytes or none, for the reason that the document says: the walk, and that its answer is true. -/
import Derived.Test.YtcjaepmecihmlaaLawBytes
import Derived.Test.YtcjaepmecihmlaaBackPure
import Derived.Test.YtcjaepmecihmlaaOpenTImageBytes
namespace Go.Proofs.Ytcjaepmecihmlaa.ImageBytes
open Go Go.RowKit Go.Proofs.Ytcjaepmecihmlaa.OpenTImageBytes Go.Proofs.Ytcjaepmecihmlaa.Img Go.Proofs.YtcjaepmecihmlaaW.PrintWords Go.Proofs.YtcjaepmecihmlaaW.PrintLast Go.Proofs.YtcjaepmecihmlaaW.PrintMore Go.Proofs.Ytcjaepmecihmlaa.ImgPure Go.Proofs.Ytcjaepmecihmlaa.GetPure Go.Proofs.Ytcjaepmecihmlaa.GetAny Go.Proofs.Ytcjaepmecihmlaa.RefImg
set_option linter.unusedVariables false
set_option linter.unusedSimpArgs false
theorem wfu32 {x : Int} (h : wf23 x) : 0 ≤ x ∧ x ≤ 4294967295 := by
  have h' : IntKind.u32.min ≤ x ∧ x ≤ IntKind.u32.max := by simpa [wf23, Lit.wf] using h
  rw [show IntKind.u32.min = 0 from rfl, show IntKind.u32.max = 4294967295 from rfl] at h'; exact h'
theorem wfu8 {x : Int} (h : wf5 x) : 0 ≤ x ∧ x ≤ 255 := by
  have h' : IntKind.u8.min ≤ x ∧ x ≤ IntKind.u8.max := by simpa [wf5, Lit.wf] using h
  rw [show IntKind.u8.min = 0 from rfl, show IntKind.u8.max = 255 from rfl] at h'; exact h'
theorem two_c65 : BackPure.c65 = GoodEq.c65 := rfl
theorem read_len (L : List Int) (d : Nat) : ∀ i ys, readS L d i = some ys → ys.length = d := by
  induction d with
  | zero => intro i ys h; simp [readS] at h; subst h; rfl
  | succ d ih =>
    intro i ys h
    rw [readS] at h
    split at h
    · cases hr : readS L d (i + 1) with
      | none => rw [hr] at h; simp at h
      | some zs =>
        rw [hr] at h
        simp at h
        subst h
        simp [ih _ _ hr]
    · cases h
theorem got_len (L : List Int) : (getI L).2.1.length ≤ 8 := by
  unfold getI
  split
  · split
    · simp
    · split
      · rename_i ys hr
        have := read_len L _ _ _ hr
        unfold done
        split
        · show ys.length ≤ 8
          omega
        · simp
      · simp
  · simp
def MayB (e : Int) (xs : List S30) : Prop := (0 ≤ e ∧ e < 4294967296) ∧ ∀ s ∈ xs, 0 ≤ s.f0 ∧ s.f0 < 4294967296 ∧ 0 ≤ s.f1 ∧ s.f1 < 4294967296
theorem law (L : List Int) (e : Int) (xs : List S30) (hL : Bytes L) (hw : MayB e xs) : tincturelaw8_ImageBytes.f 1000 L e xs = some true := by
  rw [tincturelaw8_ImageBytes.f, BackPure.awake_at, Option.bind_some, if_pos rfl]
  by_cases hl : ((L.length : Nat) : Int) > 3000
  · rw [if_pos hl]
    rfl
  rw [if_neg hl]
  obtain ⟨b, hb, hb2⟩ := BackPure.great_at 1000 e xs (by omega)
  rw [hb, Option.bind_some]
  cases b with
  | true => rfl
  | false =>
    obtain ⟨hx, hs⟩ := hb2 rfl
    have hwf : ∀ s ∈ xs, GoodEq.Wf1 s := fun s h => ⟨(hw.2 s h).1, (hw.2 s h).2.1, (hw.2 s h).2.2.1, (hw.2 s h).2.2.2, by have := hs s h; omega⟩
    have hg := got_len L
    rw [tincturelaw8_ImageBytes.j0, if_neg (by simp), Get_any 999 L hL (by omega) (by omega), Option.bind_some]
    have hr : tinctureref7_GetImage.f L = some (refI L) := by unfold tinctureref7_GetImage.f; rw [if_pos ⟨hL, by omega⟩]
    rw [hr, Option.bind_some, Put_at 999 e xs hx hs (by omega), Option.bind_some, BackPure.img_at 999 e xs hx (by omega), Option.bind_some, two_c65, RPutEq.rput_at hx hs hw.1 hwf 999 (by omega), Option.bind_some]
    rw [if_pos (show (getI L).2.2 = (refI L).2.2 from rfl), BackPure.img_at 999 _ _ (by omega) (by omega), Option.bind_some]
    have hsm := BackPure.same_at 999 (getI L).1 ((getI L).2.1.map GoodEq.c65) (by rw [List.length_map]; omega)
    show ((tincturelaw8_sameImage.f 999 (getI L).1 ((getI L).2.1.map GoodEq.c65) (getI L).1 ((getI L).2.1.map GoodEq.c65)).bind _) = _
    rw [hsm, Option.bind_some, if_pos rfl, if_pos rfl, if_pos rfl, zgs 999 e xs hx (by omega), Option.bind_some, Option.bind_some]
    show ((tinctureref7_GoodImage.f 999 e (xs.map GoodEq.c65)).bind _) = _
    rw [GoodEq.zgl hw.1 hx hwf 999 (by omega), Option.bind_some]
    simp
theorem may_of {x : (Int × List (S30))} (h : wf26 x) : MayB x.1 x.2 := by
  obtain ⟨h0, _, h1⟩ := h
  have a := wfu32 h0
  refine ⟨by omega, fun s hs => ?_⟩
  obtain ⟨b0, b1, _, _, b3⟩ := h1 s hs
  have b0 := wfu32 b0; have b1 := wfu32 b1
  omega
theorem walk (W : World) (x0 : List (Int)) (wx0 : wf28 x0) (A0 : Option Addr) (c0 : Nat) (l0_0 : x0.length ≤ c0) (r0_0 : Kd.C (Kd.int .u8) W A0 x0.length x0) (x1 : (Int × List (S30))) (wx1 : wf26 x1) (A1_0 : Option Addr) (c1_0 : Nat) (l1_0 : x1.2.length ≤ c1_0) (r1_0 : Kd.C k30 W A1_0 x1.2.length x1.2) :
    Calls Try.prog 4 #[.slice A0 x0.length c0, .agg #[.int .u32 x1.1, .slice A1_0 x1.2.length c1_0]] W fun e w' => e = .returned (.bool true) ∧ Below W.heap.size W w' :=
  tincturelaw8_ImageBytes.calls 1000 A0 c0 x0 x1.1 A1_0 c1_0 x1.2 true W r0_0 l0_0 r1_0 l1_0 (law x0 x1.1 x1.2 (fun y hy => wfu8 (wx0.2 y hy)) (may_of wx1))
end Go.Proofs.Ytcjaepmecihmlaa.ImageBytes
