/-
  No cell of these rows narrows 'for every input' (looked for: loops, veiled, ifaces, maps, wideKeys, modest, calm, conditions, laid).
  DERIVED. THE GIVEN ROWS OF THIS SEAT. 10 by the template 'for every input the law returns true; each argument reads behind the call as it read before'; 0 by the template 'total and deterministic' (their statements: YtneadfgdagdhcaaTotals.lean).
  GIVEN WITH THE SEED: the statements are not yours to turn. If you find one false, say at which input.
  Laid BY PROGRAM, IN A SANDBOX (cutbox-rows.mjs): the forced cells as the released guide's own fill.sh prints them over the translation f5413b8b528bda8a… (all of the seat's roots in one cut). By AI agents, Wed Nov 11 2026. No macro, syntax, notation, axiom, sorry.
-/
import Derived.Test.YtneadfgdagdhcaaChecked
import GoSem.Claim
import GoSem.ClaimJoined
import GoSem.ClaimMapViews
import Derived.JoinedTies
import Derived.KernelRfl
namespace Go.Proofs.Ytneadfgdagdhcaa
/- THE CELL 'sum', in the pinned program and in every row, IS THE sha256 OF THE DUMP (.gsa) THAT YtneadfgdagdhcaaProg.lean LOADS. Nothing in Lean hashes anything: it is a label: what it is worth is what the hold of that sum in a sandbox is worth. -/
noncomputable def Try.pinned : Pinned := { name := "ytneadfgdagdhcaa", sum := "f5413b8b528bda8a98826822295d57ece9012d559364a5ff5928645d63920807", checked := Try.checked }
namespace Rows
def none {H : Type} : Left H := { results := [], args := [] }

/-- 'tincturelaw1.AluDoes': WHATEVER THE INPUT: true; the input reads as it did. -/
def aluDoesSpec : ChangeSpec := { name := "aluDoes", fn := fun _ => fun
  | [d1, d2, d3] => { results := [.lit (.bool true)], args := [d1, d2, d3] }
  | _ => none }
def aluDoesRow : OpenClaim := { program := "ytneadfgdagdhcaa", sum := "f5413b8b528bda8a98826822295d57ece9012d559364a5ff5928645d63920807", func := "tincture/tincturelaw1.AluDoes", spec := "aluDoes", apart := false }
def AluDoesSaid : Prop := aluDoesRow.holds Try.pinned (OpenSpec.ofChange aluDoesSpec)

/-- ITS FALSE NEIGHBOUR: 'it returns false'. Refute it at one input. -/
def aluDoesWrong : ChangeSpec := { name := "aluDoes", fn := fun _ => fun
  | [d1, d2, d3] => { results := [.lit (.bool false)], args := [d1, d2, d3] }
  | _ => none }
def AluDoesWrongFalsely : Prop := aluDoesRow.holds Try.pinned (OpenSpec.ofChange aluDoesWrong)

/-- 'tincturelaw1.AluDivides': WHATEVER THE INPUT: true; the input reads as it did. -/
def aluDividesSpec : ChangeSpec := { name := "aluDivides", fn := fun _ => fun
  | [d1, d2] => { results := [.lit (.bool true)], args := [d1, d2] }
  | _ => none }
def aluDividesRow : OpenClaim := { program := "ytneadfgdagdhcaa", sum := "f5413b8b528bda8a98826822295d57ece9012d559364a5ff5928645d63920807", func := "tincture/tincturelaw1.AluDivides", spec := "aluDivides", apart := false }
def AluDividesSaid : Prop := aluDividesRow.holds Try.pinned (OpenSpec.ofChange aluDividesSpec)

/-- ITS FALSE NEIGHBOUR: 'it returns false'. Refute it at one input. -/
def aluDividesWrong : ChangeSpec := { name := "aluDivides", fn := fun _ => fun
  | [d1, d2] => { results := [.lit (.bool false)], args := [d1, d2] }
  | _ => none }
def AluDividesWrongFalsely : Prop := aluDividesRow.holds Try.pinned (OpenSpec.ofChange aluDividesWrong)

/-- 'tincturelaw1.AluTurns': WHATEVER THE INPUT: true; the input reads as it did. -/
def aluTurnsSpec : ChangeSpec := { name := "aluTurns", fn := fun _ => fun
  | [d1, d2] => { results := [.lit (.bool true)], args := [d1, d2] }
  | _ => none }
def aluTurnsRow : OpenClaim := { program := "ytneadfgdagdhcaa", sum := "f5413b8b528bda8a98826822295d57ece9012d559364a5ff5928645d63920807", func := "tincture/tincturelaw1.AluTurns", spec := "aluTurns", apart := false }
def AluTurnsSaid : Prop := aluTurnsRow.holds Try.pinned (OpenSpec.ofChange aluTurnsSpec)

/-- ITS FALSE NEIGHBOUR: 'it returns false'. Refute it at one input. -/
def aluTurnsWrong : ChangeSpec := { name := "aluTurns", fn := fun _ => fun
  | [d1, d2] => { results := [.lit (.bool false)], args := [d1, d2] }
  | _ => none }
def AluTurnsWrongFalsely : Prop := aluTurnsRow.holds Try.pinned (OpenSpec.ofChange aluTurnsWrong)

/-- 'tincturelaw1.AluHighs': WHATEVER THE INPUT: true; the input reads as it did. -/
def aluHighsSpec : ChangeSpec := { name := "aluHighs", fn := fun _ => fun
  | [d1, d2] => { results := [.lit (.bool true)], args := [d1, d2] }
  | _ => none }
def aluHighsRow : OpenClaim := { program := "ytneadfgdagdhcaa", sum := "f5413b8b528bda8a98826822295d57ece9012d559364a5ff5928645d63920807", func := "tincture/tincturelaw1.AluHighs", spec := "aluHighs", apart := false }
def AluHighsSaid : Prop := aluHighsRow.holds Try.pinned (OpenSpec.ofChange aluHighsSpec)

/-- ITS FALSE NEIGHBOUR: 'it returns false'. Refute it at one input. -/
def aluHighsWrong : ChangeSpec := { name := "aluHighs", fn := fun _ => fun
  | [d1, d2] => { results := [.lit (.bool false)], args := [d1, d2] }
  | _ => none }
def AluHighsWrongFalsely : Prop := aluHighsRow.holds Try.pinned (OpenSpec.ofChange aluHighsWrong)

/-- 'tincturelaw1.AluShifts': WHATEVER THE INPUT: true; the input reads as it did. -/
def aluShiftsSpec : ChangeSpec := { name := "aluShifts", fn := fun _ => fun
  | [d1, d2] => { results := [.lit (.bool true)], args := [d1, d2] }
  | _ => none }
def aluShiftsRow : OpenClaim := { program := "ytneadfgdagdhcaa", sum := "f5413b8b528bda8a98826822295d57ece9012d559364a5ff5928645d63920807", func := "tincture/tincturelaw1.AluShifts", spec := "aluShifts", apart := false }
def AluShiftsSaid : Prop := aluShiftsRow.holds Try.pinned (OpenSpec.ofChange aluShiftsSpec)

/-- ITS FALSE NEIGHBOUR: 'it returns false'. Refute it at one input. -/
def aluShiftsWrong : ChangeSpec := { name := "aluShifts", fn := fun _ => fun
  | [d1, d2] => { results := [.lit (.bool false)], args := [d1, d2] }
  | _ => none }
def AluShiftsWrongFalsely : Prop := aluShiftsRow.holds Try.pinned (OpenSpec.ofChange aluShiftsWrong)

/-- 'tincturelaw1.AluNegs': WHATEVER THE INPUT: true; the input reads as it did. -/
def aluNegsSpec : ChangeSpec := { name := "aluNegs", fn := fun _ => fun
  | [d1, d2] => { results := [.lit (.bool true)], args := [d1, d2] }
  | _ => none }
def aluNegsRow : OpenClaim := { program := "ytneadfgdagdhcaa", sum := "f5413b8b528bda8a98826822295d57ece9012d559364a5ff5928645d63920807", func := "tincture/tincturelaw1.AluNegs", spec := "aluNegs", apart := false }
def AluNegsSaid : Prop := aluNegsRow.holds Try.pinned (OpenSpec.ofChange aluNegsSpec)

/-- ITS FALSE NEIGHBOUR: 'it returns false'. Refute it at one input. -/
def aluNegsWrong : ChangeSpec := { name := "aluNegs", fn := fun _ => fun
  | [d1, d2] => { results := [.lit (.bool false)], args := [d1, d2] }
  | _ => none }
def AluNegsWrongFalsely : Prop := aluNegsRow.holds Try.pinned (OpenSpec.ofChange aluNegsWrong)

/-- 'tincturelaw1.AluSpreads': WHATEVER THE INPUT: true; the input reads as it did. -/
def aluSpreadsSpec : ChangeSpec := { name := "aluSpreads", fn := fun _ => fun
  | [d] => { results := [.lit (.bool true)], args := [d] }
  | _ => none }
def aluSpreadsRow : OpenClaim := { program := "ytneadfgdagdhcaa", sum := "f5413b8b528bda8a98826822295d57ece9012d559364a5ff5928645d63920807", func := "tincture/tincturelaw1.AluSpreads", spec := "aluSpreads", apart := false }
def AluSpreadsSaid : Prop := aluSpreadsRow.holds Try.pinned (OpenSpec.ofChange aluSpreadsSpec)

/-- ITS FALSE NEIGHBOUR: 'it returns false'. Refute it at one input. -/
def aluSpreadsWrong : ChangeSpec := { name := "aluSpreads", fn := fun _ => fun
  | [d] => { results := [.lit (.bool false)], args := [d] }
  | _ => none }
def AluSpreadsWrongFalsely : Prop := aluSpreadsRow.holds Try.pinned (OpenSpec.ofChange aluSpreadsWrong)

/-- 'tincturelaw1.AluKnown': WHATEVER THE INPUT: true; the input reads as it did. -/
def aluKnownSpec : ChangeSpec := { name := "aluKnown", fn := fun _ => fun
  | [] => { results := [.lit (.bool true)], args := [] }
  | _ => none }
def aluKnownRow : OpenClaim := { program := "ytneadfgdagdhcaa", sum := "f5413b8b528bda8a98826822295d57ece9012d559364a5ff5928645d63920807", func := "tincture/tincturelaw1.AluKnown", spec := "aluKnown", apart := false }
def AluKnownSaid : Prop := aluKnownRow.holds Try.pinned (OpenSpec.ofChange aluKnownSpec)

/-- ITS FALSE NEIGHBOUR: 'it returns false'. Refute it at one input. -/
def aluKnownWrong : ChangeSpec := { name := "aluKnown", fn := fun _ => fun
  | [] => { results := [.lit (.bool false)], args := [] }
  | _ => none }
def AluKnownWrongFalsely : Prop := aluKnownRow.holds Try.pinned (OpenSpec.ofChange aluKnownWrong)

/-- 'tincturelaw1.AluTests': WHATEVER THE INPUT: true; the input reads as it did. -/
def aluTestsSpec : ChangeSpec := { name := "aluTests", fn := fun _ => fun
  | [d1, d2, d3, d4] => { results := [.lit (.bool true)], args := [d1, d2, d3, d4] }
  | _ => none }
def aluTestsRow : OpenClaim := { program := "ytneadfgdagdhcaa", sum := "f5413b8b528bda8a98826822295d57ece9012d559364a5ff5928645d63920807", func := "tincture/tincturelaw1.AluTests", spec := "aluTests", apart := false }
def AluTestsSaid : Prop := aluTestsRow.holds Try.pinned (OpenSpec.ofChange aluTestsSpec)

/-- ITS FALSE NEIGHBOUR: 'it returns false'. Refute it at one input. -/
def aluTestsWrong : ChangeSpec := { name := "aluTests", fn := fun _ => fun
  | [d1, d2, d3, d4] => { results := [.lit (.bool false)], args := [d1, d2, d3, d4] }
  | _ => none }
def AluTestsWrongFalsely : Prop := aluTestsRow.holds Try.pinned (OpenSpec.ofChange aluTestsWrong)

/-- 'tincturelaw1.AluOrders': WHATEVER THE INPUT: true; the input reads as it did. -/
def aluOrdersSpec : ChangeSpec := { name := "aluOrders", fn := fun _ => fun
  | [d1, d2] => { results := [.lit (.bool true)], args := [d1, d2] }
  | _ => none }
def aluOrdersRow : OpenClaim := { program := "ytneadfgdagdhcaa", sum := "f5413b8b528bda8a98826822295d57ece9012d559364a5ff5928645d63920807", func := "tincture/tincturelaw1.AluOrders", spec := "aluOrders", apart := false }
def AluOrdersSaid : Prop := aluOrdersRow.holds Try.pinned (OpenSpec.ofChange aluOrdersSpec)

/-- ITS FALSE NEIGHBOUR: 'it returns false'. Refute it at one input. -/
def aluOrdersWrong : ChangeSpec := { name := "aluOrders", fn := fun _ => fun
  | [d1, d2] => { results := [.lit (.bool false)], args := [d1, d2] }
  | _ => none }
def AluOrdersWrongFalsely : Prop := aluOrdersRow.holds Try.pinned (OpenSpec.ofChange aluOrdersWrong)

/- THE SECOND FORM. 'bulk': how many values and letters a reading holds, each counted each time it is reached (what is shared counts as often as it is met; a slice's spare places count too). A statement '..UptoSaid' is the law's where the arguments, and the package variables that the reading takes, are together of bulk at most 1048576: NARROWER than '..Said'. Prove '..Said' where nothing that the law and all that it calls make is longer than what came in: it says more and counts as full. Else prove '..UptoSaid'. A law counts once. -/
mutual
def uptoBulk {H : Type} : DataW H → Nat
  | .lit (.string bytes) => bytes.length + 1
  | .lit _ => 1
  | .nil => 1
  | .ptr d => uptoBulk d + 1
  | .slice elems spare => uptoBulkAll elems + uptoBulkAll spare + 1
  | .agg parts => uptoBulkAll parts + 1
  | .iface _ d => uptoBulk d + 1
  | .map entries => uptoBulkEntries entries + 1
  | .held _ => 1
def uptoBulkAll {H : Type} : List (DataW H) → Nat
  | [] => 0
  | d :: r => uptoBulk d + uptoBulkAll r
def uptoBulkEntries {H : Type} : List (Lit × DataW H) → Nat
  | [] => 0
  | x :: r => uptoBulkEntry x + uptoBulkEntries r
def uptoBulkEntry {H : Type} : Lit × DataW H → Nat
  | (.string bytes, d) => bytes.length + uptoBulk d + 1
  | (_, d) => uptoBulk d + 1
 end
def uptoSmall : (H : Type) → List (DataW H) → Bool := fun _ ds => decide (uptoBulkAll ds ≤ 1048576)
def OpenSpec.upto (s : _root_.Go.ChangeSpec) : _root_.Go.OpenSpec := { _root_.Go.OpenSpec.ofChange s with cond := some uptoSmall }

/-- 'tincturelaw1.AluDoes', WHERE WHAT IT READS IS OF BULK AT MOST 1048576: true; the input reads as it did. -/
def aluDoesUptoRow : OpenClaim := { program := "ytneadfgdagdhcaa", sum := "f5413b8b528bda8a98826822295d57ece9012d559364a5ff5928645d63920807", func := "tincture/tincturelaw1.AluDoes", spec := "aluDoes", apart := false, narrowed := true }
def AluDoesUptoSaid : Prop := aluDoesUptoRow.holds Try.pinned (OpenSpec.upto aluDoesSpec)

/-- 'tincturelaw1.AluDivides', WHERE WHAT IT READS IS OF BULK AT MOST 1048576: true; the input reads as it did. -/
def aluDividesUptoRow : OpenClaim := { program := "ytneadfgdagdhcaa", sum := "f5413b8b528bda8a98826822295d57ece9012d559364a5ff5928645d63920807", func := "tincture/tincturelaw1.AluDivides", spec := "aluDivides", apart := false, narrowed := true }
def AluDividesUptoSaid : Prop := aluDividesUptoRow.holds Try.pinned (OpenSpec.upto aluDividesSpec)

/-- 'tincturelaw1.AluTurns', WHERE WHAT IT READS IS OF BULK AT MOST 1048576: true; the input reads as it did. -/
def aluTurnsUptoRow : OpenClaim := { program := "ytneadfgdagdhcaa", sum := "f5413b8b528bda8a98826822295d57ece9012d559364a5ff5928645d63920807", func := "tincture/tincturelaw1.AluTurns", spec := "aluTurns", apart := false, narrowed := true }
def AluTurnsUptoSaid : Prop := aluTurnsUptoRow.holds Try.pinned (OpenSpec.upto aluTurnsSpec)

/-- 'tincturelaw1.AluHighs', WHERE WHAT IT READS IS OF BULK AT MOST 1048576: true; the input reads as it did. -/
def aluHighsUptoRow : OpenClaim := { program := "ytneadfgdagdhcaa", sum := "f5413b8b528bda8a98826822295d57ece9012d559364a5ff5928645d63920807", func := "tincture/tincturelaw1.AluHighs", spec := "aluHighs", apart := false, narrowed := true }
def AluHighsUptoSaid : Prop := aluHighsUptoRow.holds Try.pinned (OpenSpec.upto aluHighsSpec)

/-- 'tincturelaw1.AluShifts', WHERE WHAT IT READS IS OF BULK AT MOST 1048576: true; the input reads as it did. -/
def aluShiftsUptoRow : OpenClaim := { program := "ytneadfgdagdhcaa", sum := "f5413b8b528bda8a98826822295d57ece9012d559364a5ff5928645d63920807", func := "tincture/tincturelaw1.AluShifts", spec := "aluShifts", apart := false, narrowed := true }
def AluShiftsUptoSaid : Prop := aluShiftsUptoRow.holds Try.pinned (OpenSpec.upto aluShiftsSpec)

/-- 'tincturelaw1.AluNegs', WHERE WHAT IT READS IS OF BULK AT MOST 1048576: true; the input reads as it did. -/
def aluNegsUptoRow : OpenClaim := { program := "ytneadfgdagdhcaa", sum := "f5413b8b528bda8a98826822295d57ece9012d559364a5ff5928645d63920807", func := "tincture/tincturelaw1.AluNegs", spec := "aluNegs", apart := false, narrowed := true }
def AluNegsUptoSaid : Prop := aluNegsUptoRow.holds Try.pinned (OpenSpec.upto aluNegsSpec)

/-- 'tincturelaw1.AluSpreads', WHERE WHAT IT READS IS OF BULK AT MOST 1048576: true; the input reads as it did. -/
def aluSpreadsUptoRow : OpenClaim := { program := "ytneadfgdagdhcaa", sum := "f5413b8b528bda8a98826822295d57ece9012d559364a5ff5928645d63920807", func := "tincture/tincturelaw1.AluSpreads", spec := "aluSpreads", apart := false, narrowed := true }
def AluSpreadsUptoSaid : Prop := aluSpreadsUptoRow.holds Try.pinned (OpenSpec.upto aluSpreadsSpec)

/-- 'tincturelaw1.AluKnown', WHERE WHAT IT READS IS OF BULK AT MOST 1048576: true; the input reads as it did. -/
def aluKnownUptoRow : OpenClaim := { program := "ytneadfgdagdhcaa", sum := "f5413b8b528bda8a98826822295d57ece9012d559364a5ff5928645d63920807", func := "tincture/tincturelaw1.AluKnown", spec := "aluKnown", apart := false, narrowed := true }
def AluKnownUptoSaid : Prop := aluKnownUptoRow.holds Try.pinned (OpenSpec.upto aluKnownSpec)

/-- 'tincturelaw1.AluTests', WHERE WHAT IT READS IS OF BULK AT MOST 1048576: true; the input reads as it did. -/
def aluTestsUptoRow : OpenClaim := { program := "ytneadfgdagdhcaa", sum := "f5413b8b528bda8a98826822295d57ece9012d559364a5ff5928645d63920807", func := "tincture/tincturelaw1.AluTests", spec := "aluTests", apart := false, narrowed := true }
def AluTestsUptoSaid : Prop := aluTestsUptoRow.holds Try.pinned (OpenSpec.upto aluTestsSpec)

/-- 'tincturelaw1.AluOrders', WHERE WHAT IT READS IS OF BULK AT MOST 1048576: true; the input reads as it did. -/
def aluOrdersUptoRow : OpenClaim := { program := "ytneadfgdagdhcaa", sum := "f5413b8b528bda8a98826822295d57ece9012d559364a5ff5928645d63920807", func := "tincture/tincturelaw1.AluOrders", spec := "aluOrders", apart := false, narrowed := true }
def AluOrdersUptoSaid : Prop := aluOrdersUptoRow.holds Try.pinned (OpenSpec.upto aluOrdersSpec)

end Rows
end Go.Proofs.Ytneadfgdagdhcaa
