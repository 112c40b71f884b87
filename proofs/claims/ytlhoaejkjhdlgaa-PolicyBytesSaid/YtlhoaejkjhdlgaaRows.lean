/-
  No cell of these rows narrows 'for every input' (looked for: loops, veiled, ifaces, maps, wideKeys, modest, calm, conditions, laid).
  DERIVED. THE GIVEN ROWS OF THIS SEAT. 6 by the template 'for every input the law returns true; each argument reads behind the call as it read before'; 0 by the template 'total and deterministic' (their statements: YtlhoaejkjhdlgaaTotals.lean).
  GIVEN WITH THE SEED: the statements are not yours to turn. If you find one false, say at which input.
  Laid BY PROGRAM, IN A SANDBOX (cutbox-rows.mjs): the forced cells as the released guide's own fill.sh prints them over the translation 0a9b7126325ee677… (all of the seat's roots in one cut). By AI agents, Wed Nov 11 2026. No macro, syntax, notation, axiom, sorry.
-/
import Derived.Test.YtlhoaejkjhdlgaaChecked
import GoSem.Claim
import GoSem.ClaimJoined
import GoSem.ClaimMapViews
import Derived.JoinedTies
import Derived.KernelRfl
namespace Go.Proofs.Ytlhoaejkjhdlgaa
/- THE CELL 'sum', in the pinned program and in every row, IS THE sha256 OF THE DUMP (.gsa) THAT YtlhoaejkjhdlgaaProg.lean LOADS. Nothing in Lean hashes anything: it is a label: what it is worth is what the hold of that sum in a sandbox is worth. -/
noncomputable def Try.pinned : Pinned := { name := "ytlhoaejkjhdlgaa", sum := "0a9b7126325ee677adfbea0abed496dfac9d252eacb018f38e19073ed6083a5a", checked := Try.checked }
namespace Rows
def none {H : Type} : Left H := { results := [], args := [] }

/-- 'tincturelaw7.PolicyKnown': WHATEVER THE INPUT: true; the input reads as it did. -/
def policyKnownSpec : ChangeSpec := { name := "policyKnown", fn := fun _ => fun
  | [] => { results := [.lit (.bool true)], args := [] }
  | _ => none }
def policyKnownRow : OpenClaim := { program := "ytlhoaejkjhdlgaa", sum := "0a9b7126325ee677adfbea0abed496dfac9d252eacb018f38e19073ed6083a5a", func := "tincture/tincturelaw7.PolicyKnown", spec := "policyKnown", apart := false }
def PolicyKnownSaid : Prop := policyKnownRow.holds Try.pinned (OpenSpec.ofChange policyKnownSpec)

/-- ITS FALSE NEIGHBOUR: 'it returns false'. Refute it at one input. -/
def policyKnownWrong : ChangeSpec := { name := "policyKnown", fn := fun _ => fun
  | [] => { results := [.lit (.bool false)], args := [] }
  | _ => none }
def PolicyKnownWrongFalsely : Prop := policyKnownRow.holds Try.pinned (OpenSpec.ofChange policyKnownWrong)

/-- 'tincturelaw7.PolicyBytes': WHATEVER THE INPUT: true; the input reads as it did. -/
def policyBytesSpec : ChangeSpec := { name := "policyBytes", fn := fun _ => fun
  | [d1, d2] => { results := [.lit (.bool true)], args := [d1, d2] }
  | _ => none }
def policyBytesRow : OpenClaim := { program := "ytlhoaejkjhdlgaa", sum := "0a9b7126325ee677adfbea0abed496dfac9d252eacb018f38e19073ed6083a5a", func := "tincture/tincturelaw7.PolicyBytes", spec := "policyBytes", apart := false }
def PolicyBytesSaid : Prop := policyBytesRow.holds Try.pinned (OpenSpec.ofChange policyBytesSpec)

/-- ITS FALSE NEIGHBOUR: 'it returns false'. Refute it at one input. -/
def policyBytesWrong : ChangeSpec := { name := "policyBytes", fn := fun _ => fun
  | [d1, d2] => { results := [.lit (.bool false)], args := [d1, d2] }
  | _ => none }
def PolicyBytesWrongFalsely : Prop := policyBytesRow.holds Try.pinned (OpenSpec.ofChange policyBytesWrong)

/-- 'tincturelaw7.PolicySays': WHATEVER THE INPUT: true; the input reads as it did. -/
def policySaysSpec : ChangeSpec := { name := "policySays", fn := fun _ => fun
  | [d1, d2, d3, d4, d5] => { results := [.lit (.bool true)], args := [d1, d2, d3, d4, d5] }
  | _ => none }
def policySaysRow : OpenClaim := { program := "ytlhoaejkjhdlgaa", sum := "0a9b7126325ee677adfbea0abed496dfac9d252eacb018f38e19073ed6083a5a", func := "tincture/tincturelaw7.PolicySays", spec := "policySays", apart := false }
def PolicySaysSaid : Prop := policySaysRow.holds Try.pinned (OpenSpec.ofChange policySaysSpec)

/-- ITS FALSE NEIGHBOUR: 'it returns false'. Refute it at one input. -/
def policySaysWrong : ChangeSpec := { name := "policySays", fn := fun _ => fun
  | [d1, d2, d3, d4, d5] => { results := [.lit (.bool false)], args := [d1, d2, d3, d4, d5] }
  | _ => none }
def PolicySaysWrongFalsely : Prop := policySaysRow.holds Try.pinned (OpenSpec.ofChange policySaysWrong)

/-- 'tincturelaw7.PolicyBack': WHATEVER THE INPUT: true; the input reads as it did. -/
def policyBackSpec : ChangeSpec := { name := "policyBack", fn := fun _ => fun
  | [d1, d2, d3] => { results := [.lit (.bool true)], args := [d1, d2, d3] }
  | _ => none }
def policyBackRow : OpenClaim := { program := "ytlhoaejkjhdlgaa", sum := "0a9b7126325ee677adfbea0abed496dfac9d252eacb018f38e19073ed6083a5a", func := "tincture/tincturelaw7.PolicyBack", spec := "policyBack", apart := false }
def PolicyBackSaid : Prop := policyBackRow.holds Try.pinned (OpenSpec.ofChange policyBackSpec)

/-- ITS FALSE NEIGHBOUR: 'it returns false'. Refute it at one input. -/
def policyBackWrong : ChangeSpec := { name := "policyBack", fn := fun _ => fun
  | [d1, d2, d3] => { results := [.lit (.bool false)], args := [d1, d2, d3] }
  | _ => none }
def PolicyBackWrongFalsely : Prop := policyBackRow.holds Try.pinned (OpenSpec.ofChange policyBackWrong)

/-- 'tincturelaw7.PolicyMore': WHATEVER THE INPUT: true; the input reads as it did. -/
def policyMoreSpec : ChangeSpec := { name := "policyMore", fn := fun _ => fun
  | [d1, d2, d3, d4, d5] => { results := [.lit (.bool true)], args := [d1, d2, d3, d4, d5] }
  | _ => none }
def policyMoreRow : OpenClaim := { program := "ytlhoaejkjhdlgaa", sum := "0a9b7126325ee677adfbea0abed496dfac9d252eacb018f38e19073ed6083a5a", func := "tincture/tincturelaw7.PolicyMore", spec := "policyMore", apart := false }
def PolicyMoreSaid : Prop := policyMoreRow.holds Try.pinned (OpenSpec.ofChange policyMoreSpec)

/-- ITS FALSE NEIGHBOUR: 'it returns false'. Refute it at one input. -/
def policyMoreWrong : ChangeSpec := { name := "policyMore", fn := fun _ => fun
  | [d1, d2, d3, d4, d5] => { results := [.lit (.bool false)], args := [d1, d2, d3, d4, d5] }
  | _ => none }
def PolicyMoreWrongFalsely : Prop := policyMoreRow.holds Try.pinned (OpenSpec.ofChange policyMoreWrong)

/-- 'tincturelaw7.PolicyParts': WHATEVER THE INPUT: true; the input reads as it did. -/
def policyPartsSpec : ChangeSpec := { name := "policyParts", fn := fun _ => fun
  | [d1, d2, d3, d4, d5] => { results := [.lit (.bool true)], args := [d1, d2, d3, d4, d5] }
  | _ => none }
def policyPartsRow : OpenClaim := { program := "ytlhoaejkjhdlgaa", sum := "0a9b7126325ee677adfbea0abed496dfac9d252eacb018f38e19073ed6083a5a", func := "tincture/tincturelaw7.PolicyParts", spec := "policyParts", apart := false }
def PolicyPartsSaid : Prop := policyPartsRow.holds Try.pinned (OpenSpec.ofChange policyPartsSpec)

/-- ITS FALSE NEIGHBOUR: 'it returns false'. Refute it at one input. -/
def policyPartsWrong : ChangeSpec := { name := "policyParts", fn := fun _ => fun
  | [d1, d2, d3, d4, d5] => { results := [.lit (.bool false)], args := [d1, d2, d3, d4, d5] }
  | _ => none }
def PolicyPartsWrongFalsely : Prop := policyPartsRow.holds Try.pinned (OpenSpec.ofChange policyPartsWrong)

/- THE SECOND FORM. 'bulk': how many values and letters a reading holds, each counted each time it is reached (what is shared counts as often as it is met; a slice's spare places count too). A statement '..UptoSaid' is the law's where the arguments, and the package variables that the reading takes, are together of bulk at most 1048576: NARROWER than '..Said'. Prove '..Said' where nothing that the law and all that it calls make is longer than what came in: it says more and counts as full. Else prove '..UptoSaid'. A law counts once. -/
mutual
def uptoBulk {H : Type} : DataW H → Nat
  | .lit (.string bytes) => bytes.length + 1
  | .lit _ => 1
  | .nil => 1
  | .ptr d => uptoBulk d + 1
  | .slice elems spare => uptoBulkAll elems + uptoBulkAll spare + 1
  | .agg parts => uptoBulkAll parts + 1
  | .iface _ d => uptoBulk d + 1
  | .map entries => uptoBulkEntries entries + 1
  | .held _ => 1
def uptoBulkAll {H : Type} : List (DataW H) → Nat
  | [] => 0
  | d :: r => uptoBulk d + uptoBulkAll r
def uptoBulkEntries {H : Type} : List (Lit × DataW H) → Nat
  | [] => 0
  | x :: r => uptoBulkEntry x + uptoBulkEntries r
def uptoBulkEntry {H : Type} : Lit × DataW H → Nat
  | (.string bytes, d) => bytes.length + uptoBulk d + 1
  | (_, d) => uptoBulk d + 1
 end
def uptoSmall : (H : Type) → List (DataW H) → Bool := fun _ ds => decide (uptoBulkAll ds ≤ 1048576)
def OpenSpec.upto (s : _root_.Go.ChangeSpec) : _root_.Go.OpenSpec := { _root_.Go.OpenSpec.ofChange s with cond := some uptoSmall }

/-- 'tincturelaw7.PolicyKnown', WHERE WHAT IT READS IS OF BULK AT MOST 1048576: true; the input reads as it did. -/
def policyKnownUptoRow : OpenClaim := { program := "ytlhoaejkjhdlgaa", sum := "0a9b7126325ee677adfbea0abed496dfac9d252eacb018f38e19073ed6083a5a", func := "tincture/tincturelaw7.PolicyKnown", spec := "policyKnown", apart := false, narrowed := true }
def PolicyKnownUptoSaid : Prop := policyKnownUptoRow.holds Try.pinned (OpenSpec.upto policyKnownSpec)

/-- 'tincturelaw7.PolicyBytes', WHERE WHAT IT READS IS OF BULK AT MOST 1048576: true; the input reads as it did. -/
def policyBytesUptoRow : OpenClaim := { program := "ytlhoaejkjhdlgaa", sum := "0a9b7126325ee677adfbea0abed496dfac9d252eacb018f38e19073ed6083a5a", func := "tincture/tincturelaw7.PolicyBytes", spec := "policyBytes", apart := false, narrowed := true }
def PolicyBytesUptoSaid : Prop := policyBytesUptoRow.holds Try.pinned (OpenSpec.upto policyBytesSpec)

/-- 'tincturelaw7.PolicySays', WHERE WHAT IT READS IS OF BULK AT MOST 1048576: true; the input reads as it did. -/
def policySaysUptoRow : OpenClaim := { program := "ytlhoaejkjhdlgaa", sum := "0a9b7126325ee677adfbea0abed496dfac9d252eacb018f38e19073ed6083a5a", func := "tincture/tincturelaw7.PolicySays", spec := "policySays", apart := false, narrowed := true }
def PolicySaysUptoSaid : Prop := policySaysUptoRow.holds Try.pinned (OpenSpec.upto policySaysSpec)

/-- 'tincturelaw7.PolicyBack', WHERE WHAT IT READS IS OF BULK AT MOST 1048576: true; the input reads as it did. -/
def policyBackUptoRow : OpenClaim := { program := "ytlhoaejkjhdlgaa", sum := "0a9b7126325ee677adfbea0abed496dfac9d252eacb018f38e19073ed6083a5a", func := "tincture/tincturelaw7.PolicyBack", spec := "policyBack", apart := false, narrowed := true }
def PolicyBackUptoSaid : Prop := policyBackUptoRow.holds Try.pinned (OpenSpec.upto policyBackSpec)

/-- 'tincturelaw7.PolicyMore', WHERE WHAT IT READS IS OF BULK AT MOST 1048576: true; the input reads as it did. -/
def policyMoreUptoRow : OpenClaim := { program := "ytlhoaejkjhdlgaa", sum := "0a9b7126325ee677adfbea0abed496dfac9d252eacb018f38e19073ed6083a5a", func := "tincture/tincturelaw7.PolicyMore", spec := "policyMore", apart := false, narrowed := true }
def PolicyMoreUptoSaid : Prop := policyMoreUptoRow.holds Try.pinned (OpenSpec.upto policyMoreSpec)

/-- 'tincturelaw7.PolicyParts', WHERE WHAT IT READS IS OF BULK AT MOST 1048576: true; the input reads as it did. -/
def policyPartsUptoRow : OpenClaim := { program := "ytlhoaejkjhdlgaa", sum := "0a9b7126325ee677adfbea0abed496dfac9d252eacb018f38e19073ed6083a5a", func := "tincture/tincturelaw7.PolicyParts", spec := "policyParts", apart := false, narrowed := true }
def PolicyPartsUptoSaid : Prop := policyPartsUptoRow.holds Try.pinned (OpenSpec.upto policyPartsSpec)

end Rows
end Go.Proofs.Ytlhoaejkjhdlgaa
