/-
  NARROWER THAN 'FOR EVERY INPUT', by the rows' own cells (each row's printed sentence says how): RvDecodes: laid · RvBack: laid · RvApart: laid · RvWhole: laid · RvFields: laid · RvKinds: laid · RvKnown: laid · RvEncodes: laid.
  DERIVED. THE GIVEN ROWS OF THIS SEAT. 8 by the template 'for every input the law returns true; each argument reads behind the call as it read before'; 0 by the template 'total and deterministic' (their statements: YtmgbidehdnmjkaaDoorTotals.lean).
  GIVEN WITH THE SEED: the statements are not yours to turn. If you find one false, say at which input.
  Laid BY PROGRAM, IN A SANDBOX (cutbox-rows.mjs): the forced cells as the released guide's own fill.sh prints them over the translation ad61779b57407e25… (all of the seat's roots in one cut). By AI agents, Wed Nov 11 2026. No macro, syntax, notation, axiom, sorry.
-/
import Derived.Test.YtmgbidehdnmjkaaDoorChecked
import GoSem.Claim
import GoSem.ClaimJoined
import GoSem.ClaimMapViews
import Derived.JoinedTies
import Derived.KernelRfl
namespace Go.Proofs.YtmgbidehdnmjkaaDoor
/- THE CELL 'sum', in the pinned program and in every row, IS THE sha256 OF THE DUMP (.gsa) THAT YtmgbidehdnmjkaaDoorProg.lean LOADS. Nothing in Lean hashes anything: it is a label: what it is worth is what the hold of that sum in a sandbox is worth. -/
noncomputable def Tryd.pinned : Pinned := { name := "ytmgbidehdnmjkaadoor", sum := "ad61779b57407e255e2c849d8ff7fe99774725c6613f0632ec526702a04d53e6", checked := Tryd.checked }
namespace Rows
def none {H : Type} : Left H := { results := [], args := [] }

/- WHAT THE LISTED PACKAGE-LEVEL VARIABLES READ AS WHEN THE CALL BEGINS. Each datum BY PROGRAM (the guide's laid-datum.mjs) off the statement by which the dump's own 'gosem.cut.vars' lays the variable. In a bare row this is a premise. The card (YtmgbidehdnmjkaaDoorCards.lean) ties it to the program's text. -/
def laid_unicode_White_Space {H : Type} : DataW H := .ptr (.agg [.slice [.agg [.lit (.int .u16 9), .lit (.int .u16 13), .lit (.int .u16 1)], .agg [.lit (.int .u16 32), .lit (.int .u16 133), .lit (.int .u16 101)], .agg [.lit (.int .u16 160), .lit (.int .u16 5760), .lit (.int .u16 5600)], .agg [.lit (.int .u16 8192), .lit (.int .u16 8202), .lit (.int .u16 1)], .agg [.lit (.int .u16 8232), .lit (.int .u16 8233), .lit (.int .u16 1)], .agg [.lit (.int .u16 8239), .lit (.int .u16 8287), .lit (.int .u16 48)], .agg [.lit (.int .u16 12288), .lit (.int .u16 12288), .lit (.int .u16 1)]] [], .nil, .lit (.int .i64 2)])
def laid_strings_asciiSpace {H : Type} : DataW H := .agg [.lit (.int .u8 0), .lit (.int .u8 0), .lit (.int .u8 0), .lit (.int .u8 0), .lit (.int .u8 0), .lit (.int .u8 0), .lit (.int .u8 0), .lit (.int .u8 0), .lit (.int .u8 0), .lit (.int .u8 1), .lit (.int .u8 1), .lit (.int .u8 1), .lit (.int .u8 1), .lit (.int .u8 1), .lit (.int .u8 0), .lit (.int .u8 0), .lit (.int .u8 0), .lit (.int .u8 0), .lit (.int .u8 0), .lit (.int .u8 0), .lit (.int .u8 0), .lit (.int .u8 0), .lit (.int .u8 0), .lit (.int .u8 0), .lit (.int .u8 0), .lit (.int .u8 0), .lit (.int .u8 0), .lit (.int .u8 0), .lit (.int .u8 0), .lit (.int .u8 0), .lit (.int .u8 0), .lit (.int .u8 0), .lit (.int .u8 1), .lit (.int .u8 0), .lit (.int .u8 0), .lit (.int .u8 0), .lit (.int .u8 0), .lit (.int .u8 0), .lit (.int .u8 0), .lit (.int .u8 0), .lit (.int .u8 0), .lit (.int .u8 0), .lit (.int .u8 0), .lit (.int .u8 0), .lit (.int .u8 0), .lit (.int .u8 0), .lit (.int .u8 0), .lit (.int .u8 0), .lit (.int .u8 0), .lit (.int .u8 0), .lit (.int .u8 0), .lit (.int .u8 0), .lit (.int .u8 0), .lit (.int .u8 0), .lit (.int .u8 0), .lit (.int .u8 0), .lit (.int .u8 0), .lit (.int .u8 0), .lit (.int .u8 0), .lit (.int .u8 0), .lit (.int .u8 0), .lit (.int .u8 0), .lit (.int .u8 0), .lit (.int .u8 0), .lit (.int .u8 0), .lit (.int .u8 0), .lit (.int .u8 0), .lit (.int .u8 0), .lit (.int .u8 0), .lit (.int .u8 0), .lit (.int .u8 0), .lit (.int .u8 0), .lit (.int .u8 0), .lit (.int .u8 0), .lit (.int .u8 0), .lit (.int .u8 0), .lit (.int .u8 0), .lit (.int .u8 0), .lit (.int .u8 0), .lit (.int .u8 0), .lit (.int .u8 0), .lit (.int .u8 0), .lit (.int .u8 0), .lit (.int .u8 0), .lit (.int .u8 0), .lit (.int .u8 0), .lit (.int .u8 0), .lit (.int .u8 0), .lit (.int .u8 0), .lit (.int .u8 0), .lit (.int .u8 0), .lit (.int .u8 0), .lit (.int .u8 0), .lit (.int .u8 0), .lit (.int .u8 0), .lit (.int .u8 0), .lit (.int .u8 0), .lit (.int .u8 0), .lit (.int .u8 0), .lit (.int .u8 0), .lit (.int .u8 0), .lit (.int .u8 0), .lit (.int .u8 0), .lit (.int .u8 0), .lit (.int .u8 0), .lit (.int .u8 0), .lit (.int .u8 0), .lit (.int .u8 0), .lit (.int .u8 0), .lit (.int .u8 0), .lit (.int .u8 0), .lit (.int .u8 0), .lit (.int .u8 0), .lit (.int .u8 0), .lit (.int .u8 0), .lit (.int .u8 0), .lit (.int .u8 0), .lit (.int .u8 0), .lit (.int .u8 0), .lit (.int .u8 0), .lit (.int .u8 0), .lit (.int .u8 0), .lit (.int .u8 0), .lit (.int .u8 0), .lit (.int .u8 0), .lit (.int .u8 0), .lit (.int .u8 0), .lit (.int .u8 0), .lit (.int .u8 0), .lit (.int .u8 0), .lit (.int .u8 0), .lit (.int .u8 0), .lit (.int .u8 0), .lit (.int .u8 0), .lit (.int .u8 0), .lit (.int .u8 0), .lit (.int .u8 0), .lit (.int .u8 0), .lit (.int .u8 0), .lit (.int .u8 0), .lit (.int .u8 0), .lit (.int .u8 0), .lit (.int .u8 0), .lit (.int .u8 0), .lit (.int .u8 0), .lit (.int .u8 0), .lit (.int .u8 0), .lit (.int .u8 0), .lit (.int .u8 0), .lit (.int .u8 0), .lit (.int .u8 0), .lit (.int .u8 0), .lit (.int .u8 0), .lit (.int .u8 0), .lit (.int .u8 0), .lit (.int .u8 0), .lit (.int .u8 0), .lit (.int .u8 0), .lit (.int .u8 0), .lit (.int .u8 0), .lit (.int .u8 0), .lit (.int .u8 0), .lit (.int .u8 0), .lit (.int .u8 0), .lit (.int .u8 0), .lit (.int .u8 0), .lit (.int .u8 0), .lit (.int .u8 0), .lit (.int .u8 0), .lit (.int .u8 0), .lit (.int .u8 0), .lit (.int .u8 0), .lit (.int .u8 0), .lit (.int .u8 0), .lit (.int .u8 0), .lit (.int .u8 0), .lit (.int .u8 0), .lit (.int .u8 0), .lit (.int .u8 0), .lit (.int .u8 0), .lit (.int .u8 0), .lit (.int .u8 0), .lit (.int .u8 0), .lit (.int .u8 0), .lit (.int .u8 0), .lit (.int .u8 0), .lit (.int .u8 0), .lit (.int .u8 0), .lit (.int .u8 0), .lit (.int .u8 0), .lit (.int .u8 0), .lit (.int .u8 0), .lit (.int .u8 0), .lit (.int .u8 0), .lit (.int .u8 0), .lit (.int .u8 0), .lit (.int .u8 0), .lit (.int .u8 0), .lit (.int .u8 0), .lit (.int .u8 0), .lit (.int .u8 0), .lit (.int .u8 0), .lit (.int .u8 0), .lit (.int .u8 0), .lit (.int .u8 0), .lit (.int .u8 0), .lit (.int .u8 0), .lit (.int .u8 0), .lit (.int .u8 0), .lit (.int .u8 0), .lit (.int .u8 0), .lit (.int .u8 0), .lit (.int .u8 0), .lit (.int .u8 0), .lit (.int .u8 0), .lit (.int .u8 0), .lit (.int .u8 0), .lit (.int .u8 0), .lit (.int .u8 0), .lit (.int .u8 0), .lit (.int .u8 0), .lit (.int .u8 0), .lit (.int .u8 0), .lit (.int .u8 0), .lit (.int .u8 0), .lit (.int .u8 0), .lit (.int .u8 0), .lit (.int .u8 0), .lit (.int .u8 0), .lit (.int .u8 0), .lit (.int .u8 0), .lit (.int .u8 0), .lit (.int .u8 0), .lit (.int .u8 0), .lit (.int .u8 0), .lit (.int .u8 0), .lit (.int .u8 0), .lit (.int .u8 0), .lit (.int .u8 0), .lit (.int .u8 0), .lit (.int .u8 0), .lit (.int .u8 0), .lit (.int .u8 0), .lit (.int .u8 0), .lit (.int .u8 0), .lit (.int .u8 0), .lit (.int .u8 0), .lit (.int .u8 0), .lit (.int .u8 0), .lit (.int .u8 0), .lit (.int .u8 0), .lit (.int .u8 0), .lit (.int .u8 0), .lit (.int .u8 0), .lit (.int .u8 0), .lit (.int .u8 0)]

/-- 'tincturelaw5.RvDecodes': WHATEVER THE INPUT: true; the input reads as it did. -/
def rvDecodesSpec : ChangeSpec := { name := "rvDecodes", fn := fun _ => fun
  | [d] => { results := [.lit (.bool true)], args := [d] }
  | _ => none }
def rvDecodesRow : OpenClaim := { program := "ytmgbidehdnmjkaadoor", sum := "ad61779b57407e255e2c849d8ff7fe99774725c6613f0632ec526702a04d53e6", func := "tincture/tincturelaw5.RvDecodes", spec := "rvDecodes", unfollowed := true, recurses := true, named := ["strings.asciiSpace", "unicode.White_Space"], apart := false, laid := [("unicode.White_Space", laid_unicode_White_Space), ("strings.asciiSpace", laid_strings_asciiSpace)] }
def RvDecodesSaid : Prop := rvDecodesRow.holds Tryd.pinned (OpenSpec.ofChange rvDecodesSpec)

/-- ITS FALSE NEIGHBOUR: 'it returns false'. Refute it at one input. -/
def rvDecodesWrong : ChangeSpec := { name := "rvDecodes", fn := fun _ => fun
  | [d] => { results := [.lit (.bool false)], args := [d] }
  | _ => none }
def RvDecodesWrongFalsely : Prop := rvDecodesRow.holds Tryd.pinned (OpenSpec.ofChange rvDecodesWrong)

/-- 'tincturelaw5.RvBack': WHATEVER THE INPUT: true; the input reads as it did. -/
def rvBackSpec : ChangeSpec := { name := "rvBack", fn := fun _ => fun
  | [d1, d2] => { results := [.lit (.bool true)], args := [d1, d2] }
  | _ => none }
def rvBackRow : OpenClaim := { program := "ytmgbidehdnmjkaadoor", sum := "ad61779b57407e255e2c849d8ff7fe99774725c6613f0632ec526702a04d53e6", func := "tincture/tincturelaw5.RvBack", spec := "rvBack", unfollowed := true, recurses := true, named := ["strings.asciiSpace", "unicode.White_Space"], apart := false, laid := [("unicode.White_Space", laid_unicode_White_Space), ("strings.asciiSpace", laid_strings_asciiSpace)] }
def RvBackSaid : Prop := rvBackRow.holds Tryd.pinned (OpenSpec.ofChange rvBackSpec)

/-- ITS FALSE NEIGHBOUR: 'it returns false'. Refute it at one input. -/
def rvBackWrong : ChangeSpec := { name := "rvBack", fn := fun _ => fun
  | [d1, d2] => { results := [.lit (.bool false)], args := [d1, d2] }
  | _ => none }
def RvBackWrongFalsely : Prop := rvBackRow.holds Tryd.pinned (OpenSpec.ofChange rvBackWrong)

/-- 'tincturelaw5.RvApart': WHATEVER THE INPUT: true; the input reads as it did. -/
def rvApartSpec : ChangeSpec := { name := "rvApart", fn := fun _ => fun
  | [d1, d2] => { results := [.lit (.bool true)], args := [d1, d2] }
  | _ => none }
def rvApartRow : OpenClaim := { program := "ytmgbidehdnmjkaadoor", sum := "ad61779b57407e255e2c849d8ff7fe99774725c6613f0632ec526702a04d53e6", func := "tincture/tincturelaw5.RvApart", spec := "rvApart", unfollowed := true, recurses := true, named := ["strings.asciiSpace", "unicode.White_Space"], apart := false, laid := [("unicode.White_Space", laid_unicode_White_Space), ("strings.asciiSpace", laid_strings_asciiSpace)] }
def RvApartSaid : Prop := rvApartRow.holds Tryd.pinned (OpenSpec.ofChange rvApartSpec)

/-- ITS FALSE NEIGHBOUR: 'it returns false'. Refute it at one input. -/
def rvApartWrong : ChangeSpec := { name := "rvApart", fn := fun _ => fun
  | [d1, d2] => { results := [.lit (.bool false)], args := [d1, d2] }
  | _ => none }
def RvApartWrongFalsely : Prop := rvApartRow.holds Tryd.pinned (OpenSpec.ofChange rvApartWrong)

/-- 'tincturelaw5.RvWhole': WHATEVER THE INPUT: true; the input reads as it did. -/
def rvWholeSpec : ChangeSpec := { name := "rvWhole", fn := fun _ => fun
  | [d1, d2] => { results := [.lit (.bool true)], args := [d1, d2] }
  | _ => none }
def rvWholeRow : OpenClaim := { program := "ytmgbidehdnmjkaadoor", sum := "ad61779b57407e255e2c849d8ff7fe99774725c6613f0632ec526702a04d53e6", func := "tincture/tincturelaw5.RvWhole", spec := "rvWhole", unfollowed := true, recurses := true, named := ["strings.asciiSpace", "unicode.White_Space"], apart := false, laid := [("unicode.White_Space", laid_unicode_White_Space), ("strings.asciiSpace", laid_strings_asciiSpace)] }
def RvWholeSaid : Prop := rvWholeRow.holds Tryd.pinned (OpenSpec.ofChange rvWholeSpec)

/-- ITS FALSE NEIGHBOUR: 'it returns false'. Refute it at one input. -/
def rvWholeWrong : ChangeSpec := { name := "rvWhole", fn := fun _ => fun
  | [d1, d2] => { results := [.lit (.bool false)], args := [d1, d2] }
  | _ => none }
def RvWholeWrongFalsely : Prop := rvWholeRow.holds Tryd.pinned (OpenSpec.ofChange rvWholeWrong)

/-- 'tincturelaw5.RvFields': WHATEVER THE INPUT: true; the input reads as it did. -/
def rvFieldsSpec : ChangeSpec := { name := "rvFields", fn := fun _ => fun
  | [d] => { results := [.lit (.bool true)], args := [d] }
  | _ => none }
def rvFieldsRow : OpenClaim := { program := "ytmgbidehdnmjkaadoor", sum := "ad61779b57407e255e2c849d8ff7fe99774725c6613f0632ec526702a04d53e6", func := "tincture/tincturelaw5.RvFields", spec := "rvFields", unfollowed := true, recurses := true, named := ["strings.asciiSpace", "unicode.White_Space"], apart := false, laid := [("unicode.White_Space", laid_unicode_White_Space), ("strings.asciiSpace", laid_strings_asciiSpace)] }
def RvFieldsSaid : Prop := rvFieldsRow.holds Tryd.pinned (OpenSpec.ofChange rvFieldsSpec)

/-- ITS FALSE NEIGHBOUR: 'it returns false'. Refute it at one input. -/
def rvFieldsWrong : ChangeSpec := { name := "rvFields", fn := fun _ => fun
  | [d] => { results := [.lit (.bool false)], args := [d] }
  | _ => none }
def RvFieldsWrongFalsely : Prop := rvFieldsRow.holds Tryd.pinned (OpenSpec.ofChange rvFieldsWrong)

/-- 'tincturelaw5.RvKinds': WHATEVER THE INPUT: true; the input reads as it did. -/
def rvKindsSpec : ChangeSpec := { name := "rvKinds", fn := fun _ => fun
  | [d] => { results := [.lit (.bool true)], args := [d] }
  | _ => none }
def rvKindsRow : OpenClaim := { program := "ytmgbidehdnmjkaadoor", sum := "ad61779b57407e255e2c849d8ff7fe99774725c6613f0632ec526702a04d53e6", func := "tincture/tincturelaw5.RvKinds", spec := "rvKinds", unfollowed := true, recurses := true, named := ["strings.asciiSpace", "unicode.White_Space"], apart := false, laid := [("unicode.White_Space", laid_unicode_White_Space), ("strings.asciiSpace", laid_strings_asciiSpace)] }
def RvKindsSaid : Prop := rvKindsRow.holds Tryd.pinned (OpenSpec.ofChange rvKindsSpec)

/-- ITS FALSE NEIGHBOUR: 'it returns false'. Refute it at one input. -/
def rvKindsWrong : ChangeSpec := { name := "rvKinds", fn := fun _ => fun
  | [d] => { results := [.lit (.bool false)], args := [d] }
  | _ => none }
def RvKindsWrongFalsely : Prop := rvKindsRow.holds Tryd.pinned (OpenSpec.ofChange rvKindsWrong)

/-- 'tincturelaw5.RvKnown': WHATEVER THE INPUT: true; the input reads as it did. -/
def rvKnownSpec : ChangeSpec := { name := "rvKnown", fn := fun _ => fun
  | [] => { results := [.lit (.bool true)], args := [] }
  | _ => none }
def rvKnownRow : OpenClaim := { program := "ytmgbidehdnmjkaadoor", sum := "ad61779b57407e255e2c849d8ff7fe99774725c6613f0632ec526702a04d53e6", func := "tincture/tincturelaw5.RvKnown", spec := "rvKnown", unfollowed := true, recurses := true, named := ["strings.asciiSpace", "unicode.White_Space"], apart := false, laid := [("unicode.White_Space", laid_unicode_White_Space), ("strings.asciiSpace", laid_strings_asciiSpace)] }
def RvKnownSaid : Prop := rvKnownRow.holds Tryd.pinned (OpenSpec.ofChange rvKnownSpec)

/-- ITS FALSE NEIGHBOUR: 'it returns false'. Refute it at one input. -/
def rvKnownWrong : ChangeSpec := { name := "rvKnown", fn := fun _ => fun
  | [] => { results := [.lit (.bool false)], args := [] }
  | _ => none }
def RvKnownWrongFalsely : Prop := rvKnownRow.holds Tryd.pinned (OpenSpec.ofChange rvKnownWrong)

/-- 'tincturelaw5.RvEncodes': WHATEVER THE INPUT: true; the input reads as it did. -/
def rvEncodesSpec : ChangeSpec := { name := "rvEncodes", fn := fun _ => fun
  | [d] => { results := [.lit (.bool true)], args := [d] }
  | _ => none }
def rvEncodesRow : OpenClaim := { program := "ytmgbidehdnmjkaadoor", sum := "ad61779b57407e255e2c849d8ff7fe99774725c6613f0632ec526702a04d53e6", func := "tincture/tincturelaw5.RvEncodes", spec := "rvEncodes", unfollowed := true, recurses := true, named := ["strings.asciiSpace", "unicode.White_Space"], apart := false, laid := [("unicode.White_Space", laid_unicode_White_Space), ("strings.asciiSpace", laid_strings_asciiSpace)] }
def RvEncodesSaid : Prop := rvEncodesRow.holds Tryd.pinned (OpenSpec.ofChange rvEncodesSpec)

/-- ITS FALSE NEIGHBOUR: 'it returns false'. Refute it at one input. -/
def rvEncodesWrong : ChangeSpec := { name := "rvEncodes", fn := fun _ => fun
  | [d] => { results := [.lit (.bool false)], args := [d] }
  | _ => none }
def RvEncodesWrongFalsely : Prop := rvEncodesRow.holds Tryd.pinned (OpenSpec.ofChange rvEncodesWrong)

/- THE SECOND FORM. 'bulk': how many values and letters a reading holds, each counted each time it is reached (what is shared counts as often as it is met; a slice's spare places count too). A statement '..UptoSaid' is the law's where the arguments, and the package variables that the reading takes, are together of bulk at most 1048576: NARROWER than '..Said'. Prove '..Said' where nothing that the law and all that it calls make is longer than what came in: it says more and counts as full. Else prove '..UptoSaid'. A law counts once. -/
mutual
def uptoBulk {H : Type} : DataW H → Nat
  | .lit (.string bytes) => bytes.length + 1
  | .lit _ => 1
  | .nil => 1
  | .ptr d => uptoBulk d + 1
  | .slice elems spare => uptoBulkAll elems + uptoBulkAll spare + 1
  | .agg parts => uptoBulkAll parts + 1
  | .iface _ d => uptoBulk d + 1
  | .map entries => uptoBulkEntries entries + 1
  | .held _ => 1
def uptoBulkAll {H : Type} : List (DataW H) → Nat
  | [] => 0
  | d :: r => uptoBulk d + uptoBulkAll r
def uptoBulkEntries {H : Type} : List (Lit × DataW H) → Nat
  | [] => 0
  | x :: r => uptoBulkEntry x + uptoBulkEntries r
def uptoBulkEntry {H : Type} : Lit × DataW H → Nat
  | (.string bytes, d) => bytes.length + uptoBulk d + 1
  | (_, d) => uptoBulk d + 1
 end
def uptoSmall : (H : Type) → List (DataW H) → Bool := fun _ ds => decide (uptoBulkAll ds ≤ 1048576)
def OpenSpec.upto (s : _root_.Go.ChangeSpec) : _root_.Go.OpenSpec := { _root_.Go.OpenSpec.ofChange s with cond := some uptoSmall }

/-- 'tincturelaw5.RvDecodes', WHERE WHAT IT READS IS OF BULK AT MOST 1048576: true; the input reads as it did. -/
def rvDecodesUptoRow : OpenClaim := { program := "ytmgbidehdnmjkaadoor", sum := "ad61779b57407e255e2c849d8ff7fe99774725c6613f0632ec526702a04d53e6", func := "tincture/tincturelaw5.RvDecodes", spec := "rvDecodes", unfollowed := true, recurses := true, named := ["strings.asciiSpace", "unicode.White_Space"], apart := false, laid := [("unicode.White_Space", laid_unicode_White_Space), ("strings.asciiSpace", laid_strings_asciiSpace)], narrowed := true }
def RvDecodesUptoSaid : Prop := rvDecodesUptoRow.holds Tryd.pinned (OpenSpec.upto rvDecodesSpec)

/-- 'tincturelaw5.RvBack', WHERE WHAT IT READS IS OF BULK AT MOST 1048576: true; the input reads as it did. -/
def rvBackUptoRow : OpenClaim := { program := "ytmgbidehdnmjkaadoor", sum := "ad61779b57407e255e2c849d8ff7fe99774725c6613f0632ec526702a04d53e6", func := "tincture/tincturelaw5.RvBack", spec := "rvBack", unfollowed := true, recurses := true, named := ["strings.asciiSpace", "unicode.White_Space"], apart := false, laid := [("unicode.White_Space", laid_unicode_White_Space), ("strings.asciiSpace", laid_strings_asciiSpace)], narrowed := true }
def RvBackUptoSaid : Prop := rvBackUptoRow.holds Tryd.pinned (OpenSpec.upto rvBackSpec)

/-- 'tincturelaw5.RvApart', WHERE WHAT IT READS IS OF BULK AT MOST 1048576: true; the input reads as it did. -/
def rvApartUptoRow : OpenClaim := { program := "ytmgbidehdnmjkaadoor", sum := "ad61779b57407e255e2c849d8ff7fe99774725c6613f0632ec526702a04d53e6", func := "tincture/tincturelaw5.RvApart", spec := "rvApart", unfollowed := true, recurses := true, named := ["strings.asciiSpace", "unicode.White_Space"], apart := false, laid := [("unicode.White_Space", laid_unicode_White_Space), ("strings.asciiSpace", laid_strings_asciiSpace)], narrowed := true }
def RvApartUptoSaid : Prop := rvApartUptoRow.holds Tryd.pinned (OpenSpec.upto rvApartSpec)

/-- 'tincturelaw5.RvWhole', WHERE WHAT IT READS IS OF BULK AT MOST 1048576: true; the input reads as it did. -/
def rvWholeUptoRow : OpenClaim := { program := "ytmgbidehdnmjkaadoor", sum := "ad61779b57407e255e2c849d8ff7fe99774725c6613f0632ec526702a04d53e6", func := "tincture/tincturelaw5.RvWhole", spec := "rvWhole", unfollowed := true, recurses := true, named := ["strings.asciiSpace", "unicode.White_Space"], apart := false, laid := [("unicode.White_Space", laid_unicode_White_Space), ("strings.asciiSpace", laid_strings_asciiSpace)], narrowed := true }
def RvWholeUptoSaid : Prop := rvWholeUptoRow.holds Tryd.pinned (OpenSpec.upto rvWholeSpec)

/-- 'tincturelaw5.RvFields', WHERE WHAT IT READS IS OF BULK AT MOST 1048576: true; the input reads as it did. -/
def rvFieldsUptoRow : OpenClaim := { program := "ytmgbidehdnmjkaadoor", sum := "ad61779b57407e255e2c849d8ff7fe99774725c6613f0632ec526702a04d53e6", func := "tincture/tincturelaw5.RvFields", spec := "rvFields", unfollowed := true, recurses := true, named := ["strings.asciiSpace", "unicode.White_Space"], apart := false, laid := [("unicode.White_Space", laid_unicode_White_Space), ("strings.asciiSpace", laid_strings_asciiSpace)], narrowed := true }
def RvFieldsUptoSaid : Prop := rvFieldsUptoRow.holds Tryd.pinned (OpenSpec.upto rvFieldsSpec)

/-- 'tincturelaw5.RvKinds', WHERE WHAT IT READS IS OF BULK AT MOST 1048576: true; the input reads as it did. -/
def rvKindsUptoRow : OpenClaim := { program := "ytmgbidehdnmjkaadoor", sum := "ad61779b57407e255e2c849d8ff7fe99774725c6613f0632ec526702a04d53e6", func := "tincture/tincturelaw5.RvKinds", spec := "rvKinds", unfollowed := true, recurses := true, named := ["strings.asciiSpace", "unicode.White_Space"], apart := false, laid := [("unicode.White_Space", laid_unicode_White_Space), ("strings.asciiSpace", laid_strings_asciiSpace)], narrowed := true }
def RvKindsUptoSaid : Prop := rvKindsUptoRow.holds Tryd.pinned (OpenSpec.upto rvKindsSpec)

/-- 'tincturelaw5.RvKnown', WHERE WHAT IT READS IS OF BULK AT MOST 1048576: true; the input reads as it did. -/
def rvKnownUptoRow : OpenClaim := { program := "ytmgbidehdnmjkaadoor", sum := "ad61779b57407e255e2c849d8ff7fe99774725c6613f0632ec526702a04d53e6", func := "tincture/tincturelaw5.RvKnown", spec := "rvKnown", unfollowed := true, recurses := true, named := ["strings.asciiSpace", "unicode.White_Space"], apart := false, laid := [("unicode.White_Space", laid_unicode_White_Space), ("strings.asciiSpace", laid_strings_asciiSpace)], narrowed := true }
def RvKnownUptoSaid : Prop := rvKnownUptoRow.holds Tryd.pinned (OpenSpec.upto rvKnownSpec)

/-- 'tincturelaw5.RvEncodes', WHERE WHAT IT READS IS OF BULK AT MOST 1048576: true; the input reads as it did. -/
def rvEncodesUptoRow : OpenClaim := { program := "ytmgbidehdnmjkaadoor", sum := "ad61779b57407e255e2c849d8ff7fe99774725c6613f0632ec526702a04d53e6", func := "tincture/tincturelaw5.RvEncodes", spec := "rvEncodes", unfollowed := true, recurses := true, named := ["strings.asciiSpace", "unicode.White_Space"], apart := false, laid := [("unicode.White_Space", laid_unicode_White_Space), ("strings.asciiSpace", laid_strings_asciiSpace)], narrowed := true }
def RvEncodesUptoSaid : Prop := rvEncodesUptoRow.holds Tryd.pinned (OpenSpec.upto rvEncodesSpec)

end Rows
end Go.Proofs.YtmgbidehdnmjkaaDoor
