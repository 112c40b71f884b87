/-
  No cell of these rows narrows 'for every input' (looked for: loops, veiled, ifaces, maps, wideKeys, modest, calm, conditions, laid).
  DERIVED. THE GIVEN ROWS OF THIS SEAT. 9 by the template 'for every input the law returns true; each argument reads behind the call as it read before'; 0 by the template 'total and deterministic' (their statements: YtbhoijkamnaopaaTotals.lean).
  GIVEN WITH THE SEED: the statements are not yours to turn. If you find one false, say at which input.
  Laid BY PROGRAM, IN A SANDBOX (cutbox-rows.mjs): the forced cells as the released guide's own fill.sh prints them over the translation 7b0faa6982493a79… (all of the seat's roots in one cut). By AI agents, Wed Nov 11 2026. No macro, syntax, notation, axiom, sorry.
-/
import Derived.Test.YtbhoijkamnaopaaChecked
import GoSem.Claim
import GoSem.ClaimJoined
import GoSem.ClaimMapViews
import Derived.JoinedTies
import Derived.KernelRfl
namespace Go.Proofs.Ytbhoijkamnaopaa
/- THE CELL 'sum', in the pinned program and in every row, IS THE sha256 OF THE DUMP (.gsa) THAT YtbhoijkamnaopaaProg.lean LOADS. Nothing in Lean hashes anything: it is a label: what it is worth is what the hold of that sum in a sandbox is worth. -/
noncomputable def Try.pinned : Pinned := { name := "ytbhoijkamnaopaa", sum := "7b0faa6982493a79c97a8c9f05136ee076f2a37d82df9023b8e814f7658c0f5b", checked := Try.checked }
namespace Rows
def none {H : Type} : Left H := { results := [], args := [] }

/-- 'tincturelaw2.TagFlows': WHATEVER THE INPUT: true; the input reads as it did. -/
def tagFlowsSpec : ChangeSpec := { name := "tagFlows", fn := fun _ => fun
  | [d1, d2, d3, d4, d5] => { results := [.lit (.bool true)], args := [d1, d2, d3, d4, d5] }
  | _ => none }
def tagFlowsRow : OpenClaim := { program := "ytbhoijkamnaopaa", sum := "7b0faa6982493a79c97a8c9f05136ee076f2a37d82df9023b8e814f7658c0f5b", func := "tincture/tincturelaw2.TagFlows", spec := "tagFlows", apart := false }
def TagFlowsSaid : Prop := tagFlowsRow.holds Try.pinned (OpenSpec.ofChange tagFlowsSpec)

/-- ITS FALSE NEIGHBOUR: 'it returns false'. Refute it at one input. -/
def tagFlowsWrong : ChangeSpec := { name := "tagFlows", fn := fun _ => fun
  | [d1, d2, d3, d4, d5] => { results := [.lit (.bool false)], args := [d1, d2, d3, d4, d5] }
  | _ => none }
def TagFlowsWrongFalsely : Prop := tagFlowsRow.holds Try.pinned (OpenSpec.ofChange tagFlowsWrong)

/-- 'tincturelaw2.TagSound': WHATEVER THE INPUT: true; the input reads as it did. -/
def tagSoundSpec : ChangeSpec := { name := "tagSound", fn := fun _ => fun
  | [d1, d2, d3, d4, d5, d6, d7, d8] => { results := [.lit (.bool true)], args := [d1, d2, d3, d4, d5, d6, d7, d8] }
  | _ => none }
def tagSoundRow : OpenClaim := { program := "ytbhoijkamnaopaa", sum := "7b0faa6982493a79c97a8c9f05136ee076f2a37d82df9023b8e814f7658c0f5b", func := "tincture/tincturelaw2.TagSound", spec := "tagSound", apart := false }
def TagSoundSaid : Prop := tagSoundRow.holds Try.pinned (OpenSpec.ofChange tagSoundSpec)

/-- ITS FALSE NEIGHBOUR: 'it returns false'. Refute it at one input. -/
def tagSoundWrong : ChangeSpec := { name := "tagSound", fn := fun _ => fun
  | [d1, d2, d3, d4, d5, d6, d7, d8] => { results := [.lit (.bool false)], args := [d1, d2, d3, d4, d5, d6, d7, d8] }
  | _ => none }
def TagSoundWrongFalsely : Prop := tagSoundRow.holds Try.pinned (OpenSpec.ofChange tagSoundWrong)

/-- 'tincturelaw2.TagClean': WHATEVER THE INPUT: true; the input reads as it did. -/
def tagCleanSpec : ChangeSpec := { name := "tagClean", fn := fun _ => fun
  | [d1, d2, d3, d4, d5] => { results := [.lit (.bool true)], args := [d1, d2, d3, d4, d5] }
  | _ => none }
def tagCleanRow : OpenClaim := { program := "ytbhoijkamnaopaa", sum := "7b0faa6982493a79c97a8c9f05136ee076f2a37d82df9023b8e814f7658c0f5b", func := "tincture/tincturelaw2.TagClean", spec := "tagClean", apart := false }
def TagCleanSaid : Prop := tagCleanRow.holds Try.pinned (OpenSpec.ofChange tagCleanSpec)

/-- ITS FALSE NEIGHBOUR: 'it returns false'. Refute it at one input. -/
def tagCleanWrong : ChangeSpec := { name := "tagClean", fn := fun _ => fun
  | [d1, d2, d3, d4, d5] => { results := [.lit (.bool false)], args := [d1, d2, d3, d4, d5] }
  | _ => none }
def TagCleanWrongFalsely : Prop := tagCleanRow.holds Try.pinned (OpenSpec.ofChange tagCleanWrong)

/-- 'tincturelaw2.TagRises': WHATEVER THE INPUT: true; the input reads as it did. -/
def tagRisesSpec : ChangeSpec := { name := "tagRises", fn := fun _ => fun
  | [d1, d2, d3, d4, d5, d6] => { results := [.lit (.bool true)], args := [d1, d2, d3, d4, d5, d6] }
  | _ => none }
def tagRisesRow : OpenClaim := { program := "ytbhoijkamnaopaa", sum := "7b0faa6982493a79c97a8c9f05136ee076f2a37d82df9023b8e814f7658c0f5b", func := "tincture/tincturelaw2.TagRises", spec := "tagRises", apart := false }
def TagRisesSaid : Prop := tagRisesRow.holds Try.pinned (OpenSpec.ofChange tagRisesSpec)

/-- ITS FALSE NEIGHBOUR: 'it returns false'. Refute it at one input. -/
def tagRisesWrong : ChangeSpec := { name := "tagRises", fn := fun _ => fun
  | [d1, d2, d3, d4, d5, d6] => { results := [.lit (.bool false)], args := [d1, d2, d3, d4, d5, d6] }
  | _ => none }
def TagRisesWrongFalsely : Prop := tagRisesRow.holds Try.pinned (OpenSpec.ofChange tagRisesWrong)

/-- 'tincturelaw2.TagJoins': WHATEVER THE INPUT: true; the input reads as it did. -/
def tagJoinsSpec : ChangeSpec := { name := "tagJoins", fn := fun _ => fun
  | [d1, d2, d3] => { results := [.lit (.bool true)], args := [d1, d2, d3] }
  | _ => none }
def tagJoinsRow : OpenClaim := { program := "ytbhoijkamnaopaa", sum := "7b0faa6982493a79c97a8c9f05136ee076f2a37d82df9023b8e814f7658c0f5b", func := "tincture/tincturelaw2.TagJoins", spec := "tagJoins", apart := false }
def TagJoinsSaid : Prop := tagJoinsRow.holds Try.pinned (OpenSpec.ofChange tagJoinsSpec)

/-- ITS FALSE NEIGHBOUR: 'it returns false'. Refute it at one input. -/
def tagJoinsWrong : ChangeSpec := { name := "tagJoins", fn := fun _ => fun
  | [d1, d2, d3] => { results := [.lit (.bool false)], args := [d1, d2, d3] }
  | _ => none }
def TagJoinsWrongFalsely : Prop := tagJoinsRow.holds Try.pinned (OpenSpec.ofChange tagJoinsWrong)

/-- 'tincturelaw2.TagBits': WHATEVER THE INPUT: true; the input reads as it did. -/
def tagBitsSpec : ChangeSpec := { name := "tagBits", fn := fun _ => fun
  | [d1, d2, d3] => { results := [.lit (.bool true)], args := [d1, d2, d3] }
  | _ => none }
def tagBitsRow : OpenClaim := { program := "ytbhoijkamnaopaa", sum := "7b0faa6982493a79c97a8c9f05136ee076f2a37d82df9023b8e814f7658c0f5b", func := "tincture/tincturelaw2.TagBits", spec := "tagBits", apart := false }
def TagBitsSaid : Prop := tagBitsRow.holds Try.pinned (OpenSpec.ofChange tagBitsSpec)

/-- ITS FALSE NEIGHBOUR: 'it returns false'. Refute it at one input. -/
def tagBitsWrong : ChangeSpec := { name := "tagBits", fn := fun _ => fun
  | [d1, d2, d3] => { results := [.lit (.bool false)], args := [d1, d2, d3] }
  | _ => none }
def TagBitsWrongFalsely : Prop := tagBitsRow.holds Try.pinned (OpenSpec.ofChange tagBitsWrong)

/-- 'tincturelaw2.TagKnown': WHATEVER THE INPUT: true; the input reads as it did. -/
def tagKnownSpec : ChangeSpec := { name := "tagKnown", fn := fun _ => fun
  | [] => { results := [.lit (.bool true)], args := [] }
  | _ => none }
def tagKnownRow : OpenClaim := { program := "ytbhoijkamnaopaa", sum := "7b0faa6982493a79c97a8c9f05136ee076f2a37d82df9023b8e814f7658c0f5b", func := "tincture/tincturelaw2.TagKnown", spec := "tagKnown", apart := false }
def TagKnownSaid : Prop := tagKnownRow.holds Try.pinned (OpenSpec.ofChange tagKnownSpec)

/-- ITS FALSE NEIGHBOUR: 'it returns false'. Refute it at one input. -/
def tagKnownWrong : ChangeSpec := { name := "tagKnown", fn := fun _ => fun
  | [] => { results := [.lit (.bool false)], args := [] }
  | _ => none }
def TagKnownWrongFalsely : Prop := tagKnownRow.holds Try.pinned (OpenSpec.ofChange tagKnownWrong)

/-- 'tincturelaw2.TagSays': WHATEVER THE INPUT: true; the input reads as it did. -/
def tagSaysSpec : ChangeSpec := { name := "tagSays", fn := fun _ => fun
  | [d1, d2, d3, d4, d5] => { results := [.lit (.bool true)], args := [d1, d2, d3, d4, d5] }
  | _ => none }
def tagSaysRow : OpenClaim := { program := "ytbhoijkamnaopaa", sum := "7b0faa6982493a79c97a8c9f05136ee076f2a37d82df9023b8e814f7658c0f5b", func := "tincture/tincturelaw2.TagSays", spec := "tagSays", apart := false }
def TagSaysSaid : Prop := tagSaysRow.holds Try.pinned (OpenSpec.ofChange tagSaysSpec)

/-- ITS FALSE NEIGHBOUR: 'it returns false'. Refute it at one input. -/
def tagSaysWrong : ChangeSpec := { name := "tagSays", fn := fun _ => fun
  | [d1, d2, d3, d4, d5] => { results := [.lit (.bool false)], args := [d1, d2, d3, d4, d5] }
  | _ => none }
def TagSaysWrongFalsely : Prop := tagSaysRow.holds Try.pinned (OpenSpec.ofChange tagSaysWrong)

/-- 'tincturelaw2.TagNarrows': WHATEVER THE INPUT: true; the input reads as it did. -/
def tagNarrowsSpec : ChangeSpec := { name := "tagNarrows", fn := fun _ => fun
  | [d1, d2] => { results := [.lit (.bool true)], args := [d1, d2] }
  | _ => none }
def tagNarrowsRow : OpenClaim := { program := "ytbhoijkamnaopaa", sum := "7b0faa6982493a79c97a8c9f05136ee076f2a37d82df9023b8e814f7658c0f5b", func := "tincture/tincturelaw2.TagNarrows", spec := "tagNarrows", apart := false }
def TagNarrowsSaid : Prop := tagNarrowsRow.holds Try.pinned (OpenSpec.ofChange tagNarrowsSpec)

/-- ITS FALSE NEIGHBOUR: 'it returns false'. Refute it at one input. -/
def tagNarrowsWrong : ChangeSpec := { name := "tagNarrows", fn := fun _ => fun
  | [d1, d2] => { results := [.lit (.bool false)], args := [d1, d2] }
  | _ => none }
def TagNarrowsWrongFalsely : Prop := tagNarrowsRow.holds Try.pinned (OpenSpec.ofChange tagNarrowsWrong)

/- THE SECOND FORM. 'bulk': how many values and letters a reading holds, each counted each time it is reached (what is shared counts as often as it is met; a slice's spare places count too). A statement '..UptoSaid' is the law's where the arguments, and the package variables that the reading takes, are together of bulk at most 1048576: NARROWER than '..Said'. Prove '..Said' where nothing that the law and all that it calls make is longer than what came in: it says more and counts as full. Else prove '..UptoSaid'. A law counts once. -/
mutual
def uptoBulk {H : Type} : DataW H → Nat
  | .lit (.string bytes) => bytes.length + 1
  | .lit _ => 1
  | .nil => 1
  | .ptr d => uptoBulk d + 1
  | .slice elems spare => uptoBulkAll elems + uptoBulkAll spare + 1
  | .agg parts => uptoBulkAll parts + 1
  | .iface _ d => uptoBulk d + 1
  | .map entries => uptoBulkEntries entries + 1
  | .held _ => 1
def uptoBulkAll {H : Type} : List (DataW H) → Nat
  | [] => 0
  | d :: r => uptoBulk d + uptoBulkAll r
def uptoBulkEntries {H : Type} : List (Lit × DataW H) → Nat
  | [] => 0
  | x :: r => uptoBulkEntry x + uptoBulkEntries r
def uptoBulkEntry {H : Type} : Lit × DataW H → Nat
  | (.string bytes, d) => bytes.length + uptoBulk d + 1
  | (_, d) => uptoBulk d + 1
 end
def uptoSmall : (H : Type) → List (DataW H) → Bool := fun _ ds => decide (uptoBulkAll ds ≤ 1048576)
def OpenSpec.upto (s : _root_.Go.ChangeSpec) : _root_.Go.OpenSpec := { _root_.Go.OpenSpec.ofChange s with cond := some uptoSmall }

/-- 'tincturelaw2.TagFlows', WHERE WHAT IT READS IS OF BULK AT MOST 1048576: true; the input reads as it did. -/
def tagFlowsUptoRow : OpenClaim := { program := "ytbhoijkamnaopaa", sum := "7b0faa6982493a79c97a8c9f05136ee076f2a37d82df9023b8e814f7658c0f5b", func := "tincture/tincturelaw2.TagFlows", spec := "tagFlows", apart := false, narrowed := true }
def TagFlowsUptoSaid : Prop := tagFlowsUptoRow.holds Try.pinned (OpenSpec.upto tagFlowsSpec)

/-- 'tincturelaw2.TagSound', WHERE WHAT IT READS IS OF BULK AT MOST 1048576: true; the input reads as it did. -/
def tagSoundUptoRow : OpenClaim := { program := "ytbhoijkamnaopaa", sum := "7b0faa6982493a79c97a8c9f05136ee076f2a37d82df9023b8e814f7658c0f5b", func := "tincture/tincturelaw2.TagSound", spec := "tagSound", apart := false, narrowed := true }
def TagSoundUptoSaid : Prop := tagSoundUptoRow.holds Try.pinned (OpenSpec.upto tagSoundSpec)

/-- 'tincturelaw2.TagClean', WHERE WHAT IT READS IS OF BULK AT MOST 1048576: true; the input reads as it did. -/
def tagCleanUptoRow : OpenClaim := { program := "ytbhoijkamnaopaa", sum := "7b0faa6982493a79c97a8c9f05136ee076f2a37d82df9023b8e814f7658c0f5b", func := "tincture/tincturelaw2.TagClean", spec := "tagClean", apart := false, narrowed := true }
def TagCleanUptoSaid : Prop := tagCleanUptoRow.holds Try.pinned (OpenSpec.upto tagCleanSpec)

/-- 'tincturelaw2.TagRises', WHERE WHAT IT READS IS OF BULK AT MOST 1048576: true; the input reads as it did. -/
def tagRisesUptoRow : OpenClaim := { program := "ytbhoijkamnaopaa", sum := "7b0faa6982493a79c97a8c9f05136ee076f2a37d82df9023b8e814f7658c0f5b", func := "tincture/tincturelaw2.TagRises", spec := "tagRises", apart := false, narrowed := true }
def TagRisesUptoSaid : Prop := tagRisesUptoRow.holds Try.pinned (OpenSpec.upto tagRisesSpec)

/-- 'tincturelaw2.TagJoins', WHERE WHAT IT READS IS OF BULK AT MOST 1048576: true; the input reads as it did. -/
def tagJoinsUptoRow : OpenClaim := { program := "ytbhoijkamnaopaa", sum := "7b0faa6982493a79c97a8c9f05136ee076f2a37d82df9023b8e814f7658c0f5b", func := "tincture/tincturelaw2.TagJoins", spec := "tagJoins", apart := false, narrowed := true }
def TagJoinsUptoSaid : Prop := tagJoinsUptoRow.holds Try.pinned (OpenSpec.upto tagJoinsSpec)

/-- 'tincturelaw2.TagBits', WHERE WHAT IT READS IS OF BULK AT MOST 1048576: true; the input reads as it did. -/
def tagBitsUptoRow : OpenClaim := { program := "ytbhoijkamnaopaa", sum := "7b0faa6982493a79c97a8c9f05136ee076f2a37d82df9023b8e814f7658c0f5b", func := "tincture/tincturelaw2.TagBits", spec := "tagBits", apart := false, narrowed := true }
def TagBitsUptoSaid : Prop := tagBitsUptoRow.holds Try.pinned (OpenSpec.upto tagBitsSpec)

/-- 'tincturelaw2.TagKnown', WHERE WHAT IT READS IS OF BULK AT MOST 1048576: true; the input reads as it did. -/
def tagKnownUptoRow : OpenClaim := { program := "ytbhoijkamnaopaa", sum := "7b0faa6982493a79c97a8c9f05136ee076f2a37d82df9023b8e814f7658c0f5b", func := "tincture/tincturelaw2.TagKnown", spec := "tagKnown", apart := false, narrowed := true }
def TagKnownUptoSaid : Prop := tagKnownUptoRow.holds Try.pinned (OpenSpec.upto tagKnownSpec)

/-- 'tincturelaw2.TagSays', WHERE WHAT IT READS IS OF BULK AT MOST 1048576: true; the input reads as it did. -/
def tagSaysUptoRow : OpenClaim := { program := "ytbhoijkamnaopaa", sum := "7b0faa6982493a79c97a8c9f05136ee076f2a37d82df9023b8e814f7658c0f5b", func := "tincture/tincturelaw2.TagSays", spec := "tagSays", apart := false, narrowed := true }
def TagSaysUptoSaid : Prop := tagSaysUptoRow.holds Try.pinned (OpenSpec.upto tagSaysSpec)

/-- 'tincturelaw2.TagNarrows', WHERE WHAT IT READS IS OF BULK AT MOST 1048576: true; the input reads as it did. -/
def tagNarrowsUptoRow : OpenClaim := { program := "ytbhoijkamnaopaa", sum := "7b0faa6982493a79c97a8c9f05136ee076f2a37d82df9023b8e814f7658c0f5b", func := "tincture/tincturelaw2.TagNarrows", spec := "tagNarrows", apart := false, narrowed := true }
def TagNarrowsUptoSaid : Prop := tagNarrowsUptoRow.holds Try.pinned (OpenSpec.upto tagNarrowsSpec)

end Rows
end Go.Proofs.Ytbhoijkamnaopaa
