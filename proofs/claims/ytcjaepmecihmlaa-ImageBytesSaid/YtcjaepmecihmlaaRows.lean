/-
  No cell of these rows narrows 'for every input' (looked for: loops, veiled, ifaces, maps, wideKeys, modest, calm, conditions, laid).
  DERIVED. THE GIVEN ROWS OF THIS SEAT. 5 by the template 'for every input the law returns true; each argument reads behind the call as it read before'; 0 by the template 'total and deterministic' (their statements: YtcjaepmecihmlaaTotals.lean).
  GIVEN WITH THE SEED: the statements are not yours to turn. If you find one false, say at which input.
  Laid BY PROGRAM, IN A SANDBOX (cutbox-rows.mjs): the forced cells as the released guide's own fill.sh prints them over the translation f4b6fcc72d5382ea… (all of the seat's roots in one cut). By AI agents, Wed Nov 11 2026. No macro, syntax, notation, axiom, sorry.
-/
import Derived.Test.YtcjaepmecihmlaaChecked
import GoSem.Claim
import GoSem.ClaimJoined
import GoSem.ClaimMapViews
import Derived.JoinedTies
import Derived.KernelRfl
namespace Go.Proofs.Ytcjaepmecihmlaa
/- THE CELL 'sum', in the pinned program and in every row, IS THE sha256 OF THE DUMP (.gsa) THAT YtcjaepmecihmlaaProg.lean LOADS. Nothing in Lean hashes anything: it is a label: what it is worth is what the hold of that sum in a sandbox is worth. -/
noncomputable def Try.pinned : Pinned := { name := "ytcjaepmecihmlaa", sum := "f4b6fcc72d5382eac26f44a7fbeba6313a44fe8fe65d4c322e00380f3ce4db49", checked := Try.checked }
namespace Rows
def none {H : Type} : Left H := { results := [], args := [] }

/-- 'tincturelaw8.ImageKnown': WHATEVER THE INPUT: true; the input reads as it did. -/
def imageKnownSpec : ChangeSpec := { name := "imageKnown", fn := fun _ => fun
  | [] => { results := [.lit (.bool true)], args := [] }
  | _ => none }
def imageKnownRow : OpenClaim := { program := "ytcjaepmecihmlaa", sum := "f4b6fcc72d5382eac26f44a7fbeba6313a44fe8fe65d4c322e00380f3ce4db49", func := "tincture/tincturelaw8.ImageKnown", spec := "imageKnown", unfollowed := true, recurses := true, apart := false }
def ImageKnownSaid : Prop := imageKnownRow.holds Try.pinned (OpenSpec.ofChange imageKnownSpec)

/-- ITS FALSE NEIGHBOUR: 'it returns false'. Refute it at one input. -/
def imageKnownWrong : ChangeSpec := { name := "imageKnown", fn := fun _ => fun
  | [] => { results := [.lit (.bool false)], args := [] }
  | _ => none }
def ImageKnownWrongFalsely : Prop := imageKnownRow.holds Try.pinned (OpenSpec.ofChange imageKnownWrong)

/-- 'tincturelaw8.ImageBytes': WHATEVER THE INPUT: true; the input reads as it did. -/
def imageBytesSpec : ChangeSpec := { name := "imageBytes", fn := fun _ => fun
  | [d1, d2] => { results := [.lit (.bool true)], args := [d1, d2] }
  | _ => none }
def imageBytesRow : OpenClaim := { program := "ytcjaepmecihmlaa", sum := "f4b6fcc72d5382eac26f44a7fbeba6313a44fe8fe65d4c322e00380f3ce4db49", func := "tincture/tincturelaw8.ImageBytes", spec := "imageBytes", unfollowed := true, recurses := true, apart := false }
def ImageBytesSaid : Prop := imageBytesRow.holds Try.pinned (OpenSpec.ofChange imageBytesSpec)

/-- ITS FALSE NEIGHBOUR: 'it returns false'. Refute it at one input. -/
def imageBytesWrong : ChangeSpec := { name := "imageBytes", fn := fun _ => fun
  | [d1, d2] => { results := [.lit (.bool false)], args := [d1, d2] }
  | _ => none }
def ImageBytesWrongFalsely : Prop := imageBytesRow.holds Try.pinned (OpenSpec.ofChange imageBytesWrong)

/-- 'tincturelaw8.ImageBack': WHATEVER THE INPUT: true; the input reads as it did. -/
def imageBackSpec : ChangeSpec := { name := "imageBack", fn := fun _ => fun
  | [d1, d2] => { results := [.lit (.bool true)], args := [d1, d2] }
  | _ => none }
def imageBackRow : OpenClaim := { program := "ytcjaepmecihmlaa", sum := "f4b6fcc72d5382eac26f44a7fbeba6313a44fe8fe65d4c322e00380f3ce4db49", func := "tincture/tincturelaw8.ImageBack", spec := "imageBack", unfollowed := true, recurses := true, apart := false }
def ImageBackSaid : Prop := imageBackRow.holds Try.pinned (OpenSpec.ofChange imageBackSpec)

/-- ITS FALSE NEIGHBOUR: 'it returns false'. Refute it at one input. -/
def imageBackWrong : ChangeSpec := { name := "imageBack", fn := fun _ => fun
  | [d1, d2] => { results := [.lit (.bool false)], args := [d1, d2] }
  | _ => none }
def ImageBackWrongFalsely : Prop := imageBackRow.holds Try.pinned (OpenSpec.ofChange imageBackWrong)

/-- 'tincturelaw8.ImageMoved': WHATEVER THE INPUT: true; the input reads as it did. -/
def imageMovedSpec : ChangeSpec := { name := "imageMoved", fn := fun _ => fun
  | [d1, d2] => { results := [.lit (.bool true)], args := [d1, d2] }
  | _ => none }
def imageMovedRow : OpenClaim := { program := "ytcjaepmecihmlaa", sum := "f4b6fcc72d5382eac26f44a7fbeba6313a44fe8fe65d4c322e00380f3ce4db49", func := "tincture/tincturelaw8.ImageMoved", spec := "imageMoved", unfollowed := true, recurses := true, apart := false }
def ImageMovedSaid : Prop := imageMovedRow.holds Try.pinned (OpenSpec.ofChange imageMovedSpec)

/-- ITS FALSE NEIGHBOUR: 'it returns false'. Refute it at one input. -/
def imageMovedWrong : ChangeSpec := { name := "imageMoved", fn := fun _ => fun
  | [d1, d2] => { results := [.lit (.bool false)], args := [d1, d2] }
  | _ => none }
def ImageMovedWrongFalsely : Prop := imageMovedRow.holds Try.pinned (OpenSpec.ofChange imageMovedWrong)

/-- 'tincturelaw8.ImageOrder': WHATEVER THE INPUT: true; the input reads as it did. -/
def imageOrderSpec : ChangeSpec := { name := "imageOrder", fn := fun _ => fun
  | [d] => { results := [.lit (.bool true)], args := [d] }
  | _ => none }
def imageOrderRow : OpenClaim := { program := "ytcjaepmecihmlaa", sum := "f4b6fcc72d5382eac26f44a7fbeba6313a44fe8fe65d4c322e00380f3ce4db49", func := "tincture/tincturelaw8.ImageOrder", spec := "imageOrder", unfollowed := true, recurses := true, apart := false }
def ImageOrderSaid : Prop := imageOrderRow.holds Try.pinned (OpenSpec.ofChange imageOrderSpec)

/-- ITS FALSE NEIGHBOUR: 'it returns false'. Refute it at one input. -/
def imageOrderWrong : ChangeSpec := { name := "imageOrder", fn := fun _ => fun
  | [d] => { results := [.lit (.bool false)], args := [d] }
  | _ => none }
def ImageOrderWrongFalsely : Prop := imageOrderRow.holds Try.pinned (OpenSpec.ofChange imageOrderWrong)

/- THE SECOND FORM. 'bulk': how many values and letters a reading holds, each counted each time it is reached (what is shared counts as often as it is met; a slice's spare places count too). A statement '..UptoSaid' is the law's where the arguments, and the package variables that the reading takes, are together of bulk at most 1048576: NARROWER than '..Said'. Prove '..Said' where nothing that the law and all that it calls make is longer than what came in: it says more and counts as full. Else prove '..UptoSaid'. A law counts once. -/
mutual
def uptoBulk {H : Type} : DataW H → Nat
  | .lit (.string bytes) => bytes.length + 1
  | .lit _ => 1
  | .nil => 1
  | .ptr d => uptoBulk d + 1
  | .slice elems spare => uptoBulkAll elems + uptoBulkAll spare + 1
  | .agg parts => uptoBulkAll parts + 1
  | .iface _ d => uptoBulk d + 1
  | .map entries => uptoBulkEntries entries + 1
  | .held _ => 1
def uptoBulkAll {H : Type} : List (DataW H) → Nat
  | [] => 0
  | d :: r => uptoBulk d + uptoBulkAll r
def uptoBulkEntries {H : Type} : List (Lit × DataW H) → Nat
  | [] => 0
  | x :: r => uptoBulkEntry x + uptoBulkEntries r
def uptoBulkEntry {H : Type} : Lit × DataW H → Nat
  | (.string bytes, d) => bytes.length + uptoBulk d + 1
  | (_, d) => uptoBulk d + 1
 end
def uptoSmall : (H : Type) → List (DataW H) → Bool := fun _ ds => decide (uptoBulkAll ds ≤ 1048576)
def OpenSpec.upto (s : _root_.Go.ChangeSpec) : _root_.Go.OpenSpec := { _root_.Go.OpenSpec.ofChange s with cond := some uptoSmall }

/-- 'tincturelaw8.ImageKnown', WHERE WHAT IT READS IS OF BULK AT MOST 1048576: true; the input reads as it did. -/
def imageKnownUptoRow : OpenClaim := { program := "ytcjaepmecihmlaa", sum := "f4b6fcc72d5382eac26f44a7fbeba6313a44fe8fe65d4c322e00380f3ce4db49", func := "tincture/tincturelaw8.ImageKnown", spec := "imageKnown", unfollowed := true, recurses := true, apart := false, narrowed := true }
def ImageKnownUptoSaid : Prop := imageKnownUptoRow.holds Try.pinned (OpenSpec.upto imageKnownSpec)

/-- 'tincturelaw8.ImageBytes', WHERE WHAT IT READS IS OF BULK AT MOST 1048576: true; the input reads as it did. -/
def imageBytesUptoRow : OpenClaim := { program := "ytcjaepmecihmlaa", sum := "f4b6fcc72d5382eac26f44a7fbeba6313a44fe8fe65d4c322e00380f3ce4db49", func := "tincture/tincturelaw8.ImageBytes", spec := "imageBytes", unfollowed := true, recurses := true, apart := false, narrowed := true }
def ImageBytesUptoSaid : Prop := imageBytesUptoRow.holds Try.pinned (OpenSpec.upto imageBytesSpec)

/-- 'tincturelaw8.ImageBack', WHERE WHAT IT READS IS OF BULK AT MOST 1048576: true; the input reads as it did. -/
def imageBackUptoRow : OpenClaim := { program := "ytcjaepmecihmlaa", sum := "f4b6fcc72d5382eac26f44a7fbeba6313a44fe8fe65d4c322e00380f3ce4db49", func := "tincture/tincturelaw8.ImageBack", spec := "imageBack", unfollowed := true, recurses := true, apart := false, narrowed := true }
def ImageBackUptoSaid : Prop := imageBackUptoRow.holds Try.pinned (OpenSpec.upto imageBackSpec)

/-- 'tincturelaw8.ImageMoved', WHERE WHAT IT READS IS OF BULK AT MOST 1048576: true; the input reads as it did. -/
def imageMovedUptoRow : OpenClaim := { program := "ytcjaepmecihmlaa", sum := "f4b6fcc72d5382eac26f44a7fbeba6313a44fe8fe65d4c322e00380f3ce4db49", func := "tincture/tincturelaw8.ImageMoved", spec := "imageMoved", unfollowed := true, recurses := true, apart := false, narrowed := true }
def ImageMovedUptoSaid : Prop := imageMovedUptoRow.holds Try.pinned (OpenSpec.upto imageMovedSpec)

/-- 'tincturelaw8.ImageOrder', WHERE WHAT IT READS IS OF BULK AT MOST 1048576: true; the input reads as it did. -/
def imageOrderUptoRow : OpenClaim := { program := "ytcjaepmecihmlaa", sum := "f4b6fcc72d5382eac26f44a7fbeba6313a44fe8fe65d4c322e00380f3ce4db49", func := "tincture/tincturelaw8.ImageOrder", spec := "imageOrder", unfollowed := true, recurses := true, apart := false, narrowed := true }
def ImageOrderUptoSaid : Prop := imageOrderUptoRow.holds Try.pinned (OpenSpec.upto imageOrderSpec)

end Rows
end Go.Proofs.Ytcjaepmecihmlaa
