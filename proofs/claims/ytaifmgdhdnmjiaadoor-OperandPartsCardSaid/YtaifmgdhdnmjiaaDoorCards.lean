/-
  DERIVED. GIVEN WITH THE SEED: THE CARDS: each row of YtaifmgdhdnmjiaaDoorRows.lean that lists a variable, with what it lists TIED to the program's text (the seventh form; the later family's looks); each row that meets fmt, with fmt's text TOLD by the authors' own Lean function (tested against real Go, not proved from fmt's source: count such statements apart). THE CARD IS WHAT COUNTS. Prove the row's statement (the work); the ties are given (YtaifmgdhdnmjiaaDoorTie.lean); close each card by the builder's one call (the guide's Derived/Test/ToyasCard.lean, 'card_holds'). Laid BY PROGRAM, IN A SANDBOX (cutbox-door.mjs). By AI agents, Wed Nov 11 2026. No macro, syntax, notation, axiom, sorry.
-/
import Derived.Test.YtaifmgdhdnmjiaaDoorRows
import GoSem.ClaimSeven
namespace Go.Proofs.YtaifmgdhdnmjiaaDoor
namespace Rows

/-- THE TIED CARD OF 'florinlaw05.OperandForms'. -/
def operandFormsCard : Claim7 := { stood := { row := operandFormsRow, standIns := [], harness := (true, "22fcbca42d5f21f34d56f90edb2c37f9c7a16b82f8861e4d95f08fb4820c4fc2"), looks := false }, kinds := [], alts := [], laidByText := true, laidKinds := [.data, .pinned], laidTests := true, laidLooks := .later }
def OperandFormsCardSaid : Prop := Claim7.holds Tryd.pinned (.plain (OpenSpec.ofChange operandFormsSpec)) operandFormsCard

/-- THE TIED CARD OF 'florinlaw05.OperandShifts'. -/
def operandShiftsCard : Claim7 := { stood := { row := operandShiftsRow, standIns := [], harness := (true, "22fcbca42d5f21f34d56f90edb2c37f9c7a16b82f8861e4d95f08fb4820c4fc2"), looks := false }, kinds := [], alts := [], laidByText := true, laidKinds := [.data, .pinned], laidTests := true, laidLooks := .later }
def OperandShiftsCardSaid : Prop := Claim7.holds Tryd.pinned (.plain (OpenSpec.ofChange operandShiftsSpec)) operandShiftsCard

/-- THE TIED CARD OF 'florinlaw05.OperandReads'. -/
def operandReadsCard : Claim7 := { stood := { row := operandReadsRow, standIns := [], harness := (true, "22fcbca42d5f21f34d56f90edb2c37f9c7a16b82f8861e4d95f08fb4820c4fc2"), looks := false }, kinds := [], alts := [], laidByText := true, laidKinds := [.data, .pinned], laidTests := true, laidLooks := .later }
def OperandReadsCardSaid : Prop := Claim7.holds Tryd.pinned (.plain (OpenSpec.ofChange operandReadsSpec)) operandReadsCard

/-- THE TIED CARD OF 'florinlaw05.OperandMoves'. -/
def operandMovesCard : Claim7 := { stood := { row := operandMovesRow, standIns := [], harness := (true, "22fcbca42d5f21f34d56f90edb2c37f9c7a16b82f8861e4d95f08fb4820c4fc2"), looks := false }, kinds := [], alts := [], laidByText := true, laidKinds := [.data, .pinned], laidTests := true, laidLooks := .later }
def OperandMovesCardSaid : Prop := Claim7.holds Tryd.pinned (.plain (OpenSpec.ofChange operandMovesSpec)) operandMovesCard

/-- THE TIED CARD OF 'florinlaw05.OperandParts'. -/
def operandPartsCard : Claim7 := { stood := { row := operandPartsRow, standIns := [], harness := (true, "22fcbca42d5f21f34d56f90edb2c37f9c7a16b82f8861e4d95f08fb4820c4fc2"), looks := false }, kinds := [], alts := [], laidByText := true, laidKinds := [.data, .pinned], laidTests := true, laidLooks := .later }
def OperandPartsCardSaid : Prop := Claim7.holds Tryd.pinned (.plain (OpenSpec.ofChange operandPartsSpec)) operandPartsCard

/-- THE SECOND FORM's CARD OF 'florinlaw05.OperandForms'. -/
def operandFormsUptoCard : Claim7 := { stood := { row := operandFormsUptoRow, standIns := [], harness := (true, "22fcbca42d5f21f34d56f90edb2c37f9c7a16b82f8861e4d95f08fb4820c4fc2"), looks := false }, kinds := [], alts := [], laidByText := true, laidKinds := [.data, .pinned], laidTests := true, laidLooks := .later }
def OperandFormsUptoCardSaid : Prop := Claim7.holds Tryd.pinned (.plain (OpenSpec.upto operandFormsSpec)) operandFormsUptoCard

/-- THE SECOND FORM's CARD OF 'florinlaw05.OperandShifts'. -/
def operandShiftsUptoCard : Claim7 := { stood := { row := operandShiftsUptoRow, standIns := [], harness := (true, "22fcbca42d5f21f34d56f90edb2c37f9c7a16b82f8861e4d95f08fb4820c4fc2"), looks := false }, kinds := [], alts := [], laidByText := true, laidKinds := [.data, .pinned], laidTests := true, laidLooks := .later }
def OperandShiftsUptoCardSaid : Prop := Claim7.holds Tryd.pinned (.plain (OpenSpec.upto operandShiftsSpec)) operandShiftsUptoCard

/-- THE SECOND FORM's CARD OF 'florinlaw05.OperandReads'. -/
def operandReadsUptoCard : Claim7 := { stood := { row := operandReadsUptoRow, standIns := [], harness := (true, "22fcbca42d5f21f34d56f90edb2c37f9c7a16b82f8861e4d95f08fb4820c4fc2"), looks := false }, kinds := [], alts := [], laidByText := true, laidKinds := [.data, .pinned], laidTests := true, laidLooks := .later }
def OperandReadsUptoCardSaid : Prop := Claim7.holds Tryd.pinned (.plain (OpenSpec.upto operandReadsSpec)) operandReadsUptoCard

/-- THE SECOND FORM's CARD OF 'florinlaw05.OperandMoves'. -/
def operandMovesUptoCard : Claim7 := { stood := { row := operandMovesUptoRow, standIns := [], harness := (true, "22fcbca42d5f21f34d56f90edb2c37f9c7a16b82f8861e4d95f08fb4820c4fc2"), looks := false }, kinds := [], alts := [], laidByText := true, laidKinds := [.data, .pinned], laidTests := true, laidLooks := .later }
def OperandMovesUptoCardSaid : Prop := Claim7.holds Tryd.pinned (.plain (OpenSpec.upto operandMovesSpec)) operandMovesUptoCard

/-- THE SECOND FORM's CARD OF 'florinlaw05.OperandParts'. -/
def operandPartsUptoCard : Claim7 := { stood := { row := operandPartsUptoRow, standIns := [], harness := (true, "22fcbca42d5f21f34d56f90edb2c37f9c7a16b82f8861e4d95f08fb4820c4fc2"), looks := false }, kinds := [], alts := [], laidByText := true, laidKinds := [.data, .pinned], laidTests := true, laidLooks := .later }
def OperandPartsUptoCardSaid : Prop := Claim7.holds Tryd.pinned (.plain (OpenSpec.upto operandPartsSpec)) operandPartsUptoCard
end Rows
end Go.Proofs.YtaifmgdhdnmjiaaDoor
