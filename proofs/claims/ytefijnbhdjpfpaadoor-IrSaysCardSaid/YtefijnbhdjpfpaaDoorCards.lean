/-
  DERIVED. GIVEN WITH THE SEED: THE CARDS: each row of YtefijnbhdjpfpaaDoorRows.lean that lists a variable, with what it lists TIED to the program's text (the seventh form; the later family's looks); each row that meets fmt, with fmt's text TOLD by the authors' own Lean function (tested against real Go, not proved from fmt's source: count such statements apart). THE CARD IS WHAT COUNTS. Prove the row's statement (the work); the ties are given (YtefijnbhdjpfpaaDoorTie.lean); close each card by the builder's one call (the guide's Derived/Test/ToyasCard.lean, 'card_holds'). Laid BY PROGRAM, IN A SANDBOX (cutbox-door.mjs). By AI agents, Wed Nov 11 2026. No macro, syntax, notation, axiom, sorry.
-/
import Derived.Test.YtefijnbhdjpfpaaDoorRows
import GoSem.ClaimSeven
namespace Go.Proofs.YtefijnbhdjpfpaaDoor
namespace Rows

/-- THE TIED CARD OF 'tincturelaw19.IrKnown'. -/
def irKnownCard : Claim7 := { stood := { row := irKnownRow, standIns := [], harness := (true, "6e6da21c0dcfe14c6e27edaf3b3f8c4604a1c6372409a691f1798c4666348728"), looks := false }, kinds := [], alts := [], laidByText := true, laidKinds := [.data, .data, .data], laidTests := true, laidLooks := .later }
def IrKnownCardSaid : Prop := Claim7.holds Tryd.pinned (.plain (OpenSpec.ofChange irKnownSpec)) irKnownCard

/-- THE TIED CARD OF 'tincturelaw19.IrSays'. -/
def irSaysCard : Claim7 := { stood := { row := irSaysRow, standIns := [], harness := (true, "6e6da21c0dcfe14c6e27edaf3b3f8c4604a1c6372409a691f1798c4666348728"), looks := false }, kinds := [], alts := [], laidByText := true, laidKinds := [.data, .data, .data], laidTests := true, laidLooks := .later }
def IrSaysCardSaid : Prop := Claim7.holds Tryd.pinned (.plain (OpenSpec.ofChange irSaysSpec)) irSaysCard

/-- THE TIED CARD OF 'tincturelaw19.IrParts'. -/
def irPartsCard : Claim7 := { stood := { row := irPartsRow, standIns := [], harness := (true, "6e6da21c0dcfe14c6e27edaf3b3f8c4604a1c6372409a691f1798c4666348728"), looks := false }, kinds := [], alts := [], laidByText := true, laidKinds := [.data, .data, .data], laidTests := true, laidLooks := .later }
def IrPartsCardSaid : Prop := Claim7.holds Tryd.pinned (.plain (OpenSpec.ofChange irPartsSpec)) irPartsCard

/-- THE TIED CARD OF 'tincturelaw19.IrLong'. -/
def irLongCard : Claim7 := { stood := { row := irLongRow, standIns := [], harness := (true, "6e6da21c0dcfe14c6e27edaf3b3f8c4604a1c6372409a691f1798c4666348728"), looks := false }, kinds := [], alts := [], laidByText := true, laidKinds := [.data, .data, .data], laidTests := true, laidLooks := .later }
def IrLongCardSaid : Prop := Claim7.holds Tryd.pinned (.plain (OpenSpec.ofChange irLongSpec)) irLongCard

/-- THE TIED CARD OF 'tincturelaw19.IrWrites'. -/
def irWritesCard : Claim7 := { stood := { row := irWritesRow, standIns := [], harness := (true, "6e6da21c0dcfe14c6e27edaf3b3f8c4604a1c6372409a691f1798c4666348728"), looks := false }, kinds := [], alts := [], laidByText := true, laidKinds := [.data, .data, .data], laidTests := true, laidLooks := .later }
def IrWritesCardSaid : Prop := Claim7.holds Tryd.pinned (.plain (OpenSpec.ofChange irWritesSpec)) irWritesCard

/-- THE SECOND FORM's CARD OF 'tincturelaw19.IrKnown'. -/
def irKnownUptoCard : Claim7 := { stood := { row := irKnownUptoRow, standIns := [], harness := (true, "6e6da21c0dcfe14c6e27edaf3b3f8c4604a1c6372409a691f1798c4666348728"), looks := false }, kinds := [], alts := [], laidByText := true, laidKinds := [.data, .data, .data], laidTests := true, laidLooks := .later }
def IrKnownUptoCardSaid : Prop := Claim7.holds Tryd.pinned (.plain (OpenSpec.upto irKnownSpec)) irKnownUptoCard

/-- THE SECOND FORM's CARD OF 'tincturelaw19.IrSays'. -/
def irSaysUptoCard : Claim7 := { stood := { row := irSaysUptoRow, standIns := [], harness := (true, "6e6da21c0dcfe14c6e27edaf3b3f8c4604a1c6372409a691f1798c4666348728"), looks := false }, kinds := [], alts := [], laidByText := true, laidKinds := [.data, .data, .data], laidTests := true, laidLooks := .later }
def IrSaysUptoCardSaid : Prop := Claim7.holds Tryd.pinned (.plain (OpenSpec.upto irSaysSpec)) irSaysUptoCard

/-- THE SECOND FORM's CARD OF 'tincturelaw19.IrParts'. -/
def irPartsUptoCard : Claim7 := { stood := { row := irPartsUptoRow, standIns := [], harness := (true, "6e6da21c0dcfe14c6e27edaf3b3f8c4604a1c6372409a691f1798c4666348728"), looks := false }, kinds := [], alts := [], laidByText := true, laidKinds := [.data, .data, .data], laidTests := true, laidLooks := .later }
def IrPartsUptoCardSaid : Prop := Claim7.holds Tryd.pinned (.plain (OpenSpec.upto irPartsSpec)) irPartsUptoCard

/-- THE SECOND FORM's CARD OF 'tincturelaw19.IrLong'. -/
def irLongUptoCard : Claim7 := { stood := { row := irLongUptoRow, standIns := [], harness := (true, "6e6da21c0dcfe14c6e27edaf3b3f8c4604a1c6372409a691f1798c4666348728"), looks := false }, kinds := [], alts := [], laidByText := true, laidKinds := [.data, .data, .data], laidTests := true, laidLooks := .later }
def IrLongUptoCardSaid : Prop := Claim7.holds Tryd.pinned (.plain (OpenSpec.upto irLongSpec)) irLongUptoCard

/-- THE SECOND FORM's CARD OF 'tincturelaw19.IrWrites'. -/
def irWritesUptoCard : Claim7 := { stood := { row := irWritesUptoRow, standIns := [], harness := (true, "6e6da21c0dcfe14c6e27edaf3b3f8c4604a1c6372409a691f1798c4666348728"), looks := false }, kinds := [], alts := [], laidByText := true, laidKinds := [.data, .data, .data], laidTests := true, laidLooks := .later }
def IrWritesUptoCardSaid : Prop := Claim7.holds Tryd.pinned (.plain (OpenSpec.upto irWritesSpec)) irWritesUptoCard
end Rows
end Go.Proofs.YtefijnbhdjpfpaaDoor
