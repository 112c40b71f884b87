/-
  DERIVED. GIVEN WITH THE SEED: THE CARDS: each row of YtmgbidehdnmjkaaDoorRows.lean that lists a variable, with what it lists TIED to the program's text (the seventh form; the later family's looks); each row that meets fmt, with fmt's text TOLD by the authors' own Lean function (tested against real Go, not proved from fmt's source: count such statements apart). THE CARD IS WHAT COUNTS. Prove the row's statement (the work); the ties are given (YtmgbidehdnmjkaaDoorTie.lean); close each card by the builder's one call (the guide's Derived/Test/ToyasCard.lean, 'card_holds'). Laid BY PROGRAM, IN A SANDBOX (cutbox-door.mjs). By AI agents, Wed Nov 11 2026. No macro, syntax, notation, axiom, sorry.
-/
import Derived.Test.YtmgbidehdnmjkaaDoorRows
import GoSem.ClaimSeven
namespace Go.Proofs.YtmgbidehdnmjkaaDoor
namespace Rows

/-- THE TIED CARD OF 'tincturelaw5.RvDecodes'. -/
def rvDecodesCard : Claim7 := { stood := { row := rvDecodesRow, standIns := [], harness := (true, "df954343b2e775066c463f3efd499400c51a9a9c37730749ba3d98dffcb8d176"), looks := false }, kinds := [], alts := [], laidByText := true, laidKinds := [.listed, .data], laidTests := true, laidLooks := .later }
def RvDecodesCardSaid : Prop := Claim7.holds Tryd.pinned (.plain (OpenSpec.ofChange rvDecodesSpec)) rvDecodesCard

/-- THE TIED CARD OF 'tincturelaw5.RvBack'. -/
def rvBackCard : Claim7 := { stood := { row := rvBackRow, standIns := [], harness := (true, "df954343b2e775066c463f3efd499400c51a9a9c37730749ba3d98dffcb8d176"), looks := false }, kinds := [], alts := [], laidByText := true, laidKinds := [.listed, .data], laidTests := true, laidLooks := .later }
def RvBackCardSaid : Prop := Claim7.holds Tryd.pinned (.plain (OpenSpec.ofChange rvBackSpec)) rvBackCard

/-- THE TIED CARD OF 'tincturelaw5.RvApart'. -/
def rvApartCard : Claim7 := { stood := { row := rvApartRow, standIns := [], harness := (true, "df954343b2e775066c463f3efd499400c51a9a9c37730749ba3d98dffcb8d176"), looks := false }, kinds := [], alts := [], laidByText := true, laidKinds := [.listed, .data], laidTests := true, laidLooks := .later }
def RvApartCardSaid : Prop := Claim7.holds Tryd.pinned (.plain (OpenSpec.ofChange rvApartSpec)) rvApartCard

/-- THE TIED CARD OF 'tincturelaw5.RvWhole'. -/
def rvWholeCard : Claim7 := { stood := { row := rvWholeRow, standIns := [], harness := (true, "df954343b2e775066c463f3efd499400c51a9a9c37730749ba3d98dffcb8d176"), looks := false }, kinds := [], alts := [], laidByText := true, laidKinds := [.listed, .data], laidTests := true, laidLooks := .later }
def RvWholeCardSaid : Prop := Claim7.holds Tryd.pinned (.plain (OpenSpec.ofChange rvWholeSpec)) rvWholeCard

/-- THE TIED CARD OF 'tincturelaw5.RvFields'. -/
def rvFieldsCard : Claim7 := { stood := { row := rvFieldsRow, standIns := [], harness := (true, "df954343b2e775066c463f3efd499400c51a9a9c37730749ba3d98dffcb8d176"), looks := false }, kinds := [], alts := [], laidByText := true, laidKinds := [.listed, .data], laidTests := true, laidLooks := .later }
def RvFieldsCardSaid : Prop := Claim7.holds Tryd.pinned (.plain (OpenSpec.ofChange rvFieldsSpec)) rvFieldsCard

/-- THE TIED CARD OF 'tincturelaw5.RvKinds'. -/
def rvKindsCard : Claim7 := { stood := { row := rvKindsRow, standIns := [], harness := (true, "df954343b2e775066c463f3efd499400c51a9a9c37730749ba3d98dffcb8d176"), looks := false }, kinds := [], alts := [], laidByText := true, laidKinds := [.listed, .data], laidTests := true, laidLooks := .later }
def RvKindsCardSaid : Prop := Claim7.holds Tryd.pinned (.plain (OpenSpec.ofChange rvKindsSpec)) rvKindsCard

/-- THE TIED CARD OF 'tincturelaw5.RvKnown'. -/
def rvKnownCard : Claim7 := { stood := { row := rvKnownRow, standIns := [], harness := (true, "df954343b2e775066c463f3efd499400c51a9a9c37730749ba3d98dffcb8d176"), looks := false }, kinds := [], alts := [], laidByText := true, laidKinds := [.listed, .data], laidTests := true, laidLooks := .later }
def RvKnownCardSaid : Prop := Claim7.holds Tryd.pinned (.plain (OpenSpec.ofChange rvKnownSpec)) rvKnownCard

/-- THE TIED CARD OF 'tincturelaw5.RvEncodes'. -/
def rvEncodesCard : Claim7 := { stood := { row := rvEncodesRow, standIns := [], harness := (true, "df954343b2e775066c463f3efd499400c51a9a9c37730749ba3d98dffcb8d176"), looks := false }, kinds := [], alts := [], laidByText := true, laidKinds := [.listed, .data], laidTests := true, laidLooks := .later }
def RvEncodesCardSaid : Prop := Claim7.holds Tryd.pinned (.plain (OpenSpec.ofChange rvEncodesSpec)) rvEncodesCard

/-- THE SECOND FORM's CARD OF 'tincturelaw5.RvDecodes'. -/
def rvDecodesUptoCard : Claim7 := { stood := { row := rvDecodesUptoRow, standIns := [], harness := (true, "df954343b2e775066c463f3efd499400c51a9a9c37730749ba3d98dffcb8d176"), looks := false }, kinds := [], alts := [], laidByText := true, laidKinds := [.listed, .data], laidTests := true, laidLooks := .later }
def RvDecodesUptoCardSaid : Prop := Claim7.holds Tryd.pinned (.plain (OpenSpec.upto rvDecodesSpec)) rvDecodesUptoCard

/-- THE SECOND FORM's CARD OF 'tincturelaw5.RvBack'. -/
def rvBackUptoCard : Claim7 := { stood := { row := rvBackUptoRow, standIns := [], harness := (true, "df954343b2e775066c463f3efd499400c51a9a9c37730749ba3d98dffcb8d176"), looks := false }, kinds := [], alts := [], laidByText := true, laidKinds := [.listed, .data], laidTests := true, laidLooks := .later }
def RvBackUptoCardSaid : Prop := Claim7.holds Tryd.pinned (.plain (OpenSpec.upto rvBackSpec)) rvBackUptoCard

/-- THE SECOND FORM's CARD OF 'tincturelaw5.RvApart'. -/
def rvApartUptoCard : Claim7 := { stood := { row := rvApartUptoRow, standIns := [], harness := (true, "df954343b2e775066c463f3efd499400c51a9a9c37730749ba3d98dffcb8d176"), looks := false }, kinds := [], alts := [], laidByText := true, laidKinds := [.listed, .data], laidTests := true, laidLooks := .later }
def RvApartUptoCardSaid : Prop := Claim7.holds Tryd.pinned (.plain (OpenSpec.upto rvApartSpec)) rvApartUptoCard

/-- THE SECOND FORM's CARD OF 'tincturelaw5.RvWhole'. -/
def rvWholeUptoCard : Claim7 := { stood := { row := rvWholeUptoRow, standIns := [], harness := (true, "df954343b2e775066c463f3efd499400c51a9a9c37730749ba3d98dffcb8d176"), looks := false }, kinds := [], alts := [], laidByText := true, laidKinds := [.listed, .data], laidTests := true, laidLooks := .later }
def RvWholeUptoCardSaid : Prop := Claim7.holds Tryd.pinned (.plain (OpenSpec.upto rvWholeSpec)) rvWholeUptoCard

/-- THE SECOND FORM's CARD OF 'tincturelaw5.RvFields'. -/
def rvFieldsUptoCard : Claim7 := { stood := { row := rvFieldsUptoRow, standIns := [], harness := (true, "df954343b2e775066c463f3efd499400c51a9a9c37730749ba3d98dffcb8d176"), looks := false }, kinds := [], alts := [], laidByText := true, laidKinds := [.listed, .data], laidTests := true, laidLooks := .later }
def RvFieldsUptoCardSaid : Prop := Claim7.holds Tryd.pinned (.plain (OpenSpec.upto rvFieldsSpec)) rvFieldsUptoCard

/-- THE SECOND FORM's CARD OF 'tincturelaw5.RvKinds'. -/
def rvKindsUptoCard : Claim7 := { stood := { row := rvKindsUptoRow, standIns := [], harness := (true, "df954343b2e775066c463f3efd499400c51a9a9c37730749ba3d98dffcb8d176"), looks := false }, kinds := [], alts := [], laidByText := true, laidKinds := [.listed, .data], laidTests := true, laidLooks := .later }
def RvKindsUptoCardSaid : Prop := Claim7.holds Tryd.pinned (.plain (OpenSpec.upto rvKindsSpec)) rvKindsUptoCard

/-- THE SECOND FORM's CARD OF 'tincturelaw5.RvKnown'. -/
def rvKnownUptoCard : Claim7 := { stood := { row := rvKnownUptoRow, standIns := [], harness := (true, "df954343b2e775066c463f3efd499400c51a9a9c37730749ba3d98dffcb8d176"), looks := false }, kinds := [], alts := [], laidByText := true, laidKinds := [.listed, .data], laidTests := true, laidLooks := .later }
def RvKnownUptoCardSaid : Prop := Claim7.holds Tryd.pinned (.plain (OpenSpec.upto rvKnownSpec)) rvKnownUptoCard

/-- THE SECOND FORM's CARD OF 'tincturelaw5.RvEncodes'. -/
def rvEncodesUptoCard : Claim7 := { stood := { row := rvEncodesUptoRow, standIns := [], harness := (true, "df954343b2e775066c463f3efd499400c51a9a9c37730749ba3d98dffcb8d176"), looks := false }, kinds := [], alts := [], laidByText := true, laidKinds := [.listed, .data], laidTests := true, laidLooks := .later }
def RvEncodesUptoCardSaid : Prop := Claim7.holds Tryd.pinned (.plain (OpenSpec.upto rvEncodesSpec)) rvEncodesUptoCard
end Rows
end Go.Proofs.YtmgbidehdnmjkaaDoor
