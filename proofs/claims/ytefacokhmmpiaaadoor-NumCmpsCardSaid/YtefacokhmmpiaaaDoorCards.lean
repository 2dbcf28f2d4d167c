/-
  DERIVED. GIVEN WITH THE SEED: THE CARDS: each row of YtefacokhmmpiaaaDoorRows.lean that lists a variable, with what it lists TIED to the program's text (the seventh form; the later family's looks); each row that meets fmt, with fmt's text TOLD by the authors' own Lean function (tested against real Go, not proved from fmt's source: count such statements apart). THE CARD IS WHAT COUNTS. Prove the row's statement (the work); the ties are given (YtefacokhmmpiaaaDoorTie.lean); close each card by the builder's one call (the guide's Derived/Test/ToyasCard.lean, 'card_holds'). Laid BY PROGRAM, IN A SANDBOX (cutbox-door.mjs). By AI agents, Wed Nov 11 2026. No macro, syntax, notation, axiom, sorry.
-/
import Derived.Test.YtefacokhmmpiaaaDoorRows
import GoSem.ClaimSeven
namespace Go.Proofs.YtefacokhmmpiaaaDoor
namespace Rows

/-- THE TIED CARD OF 'florinlaw01.NumTimes'. -/
def numTimesCard : Claim7 := { stood := { row := numTimesRow, standIns := [], harness := (true, "9bbab3584e9b73330f26e2b6bb5a1b577d8e0e7458cabbae3383b44ed167a7c7"), looks := false }, kinds := [], alts := [], laidByText := true, laidKinds := [.data, .pinned], laidTests := true, laidLooks := .later }
def NumTimesCardSaid : Prop := Claim7.holds Tryd.pinned (.plain (OpenSpec.ofChange numTimesSpec)) numTimesCard

/-- THE TIED CARD OF 'florinlaw01.NumInts'. -/
def numIntsCard : Claim7 := { stood := { row := numIntsRow, standIns := [], harness := (true, "9bbab3584e9b73330f26e2b6bb5a1b577d8e0e7458cabbae3383b44ed167a7c7"), looks := false }, kinds := [], alts := [], laidByText := true, laidKinds := [.data, .pinned], laidTests := true, laidLooks := .later }
def NumIntsCardSaid : Prop := Claim7.holds Tryd.pinned (.plain (OpenSpec.ofChange numIntsSpec)) numIntsCard

/-- THE TIED CARD OF 'florinlaw01.NumDivs'. -/
def numDivsCard : Claim7 := { stood := { row := numDivsRow, standIns := [], harness := (true, "9bbab3584e9b73330f26e2b6bb5a1b577d8e0e7458cabbae3383b44ed167a7c7"), looks := false }, kinds := [], alts := [], laidByText := true, laidKinds := [.data, .pinned], laidTests := true, laidLooks := .later }
def NumDivsCardSaid : Prop := Claim7.holds Tryd.pinned (.plain (OpenSpec.ofChange numDivsSpec)) numDivsCard

/-- THE TIED CARD OF 'florinlaw01.NumAdds'. -/
def numAddsCard : Claim7 := { stood := { row := numAddsRow, standIns := [], harness := (true, "9bbab3584e9b73330f26e2b6bb5a1b577d8e0e7458cabbae3383b44ed167a7c7"), looks := false }, kinds := [], alts := [], laidByText := true, laidKinds := [.data, .pinned], laidTests := true, laidLooks := .later }
def NumAddsCardSaid : Prop := Claim7.holds Tryd.pinned (.plain (OpenSpec.ofChange numAddsSpec)) numAddsCard

/-- THE TIED CARD OF 'florinlaw01.NumSubs'. -/
def numSubsCard : Claim7 := { stood := { row := numSubsRow, standIns := [], harness := (true, "9bbab3584e9b73330f26e2b6bb5a1b577d8e0e7458cabbae3383b44ed167a7c7"), looks := false }, kinds := [], alts := [], laidByText := true, laidKinds := [.data, .pinned], laidTests := true, laidLooks := .later }
def NumSubsCardSaid : Prop := Claim7.holds Tryd.pinned (.plain (OpenSpec.ofChange numSubsSpec)) numSubsCard

/-- THE TIED CARD OF 'florinlaw01.NumTexts'. -/
def numTextsCard : Claim7 := { stood := { row := numTextsRow, standIns := [], harness := (true, "9bbab3584e9b73330f26e2b6bb5a1b577d8e0e7458cabbae3383b44ed167a7c7"), looks := false }, kinds := [], alts := [], laidByText := true, laidKinds := [.data, .pinned], laidTests := true, laidLooks := .later }
def NumTextsCardSaid : Prop := Claim7.holds Tryd.pinned (.plain (OpenSpec.ofChange numTextsSpec)) numTextsCard

/-- THE TIED CARD OF 'florinlaw01.NumSmall'. -/
def numSmallCard : Claim7 := { stood := { row := numSmallRow, standIns := [], harness := (true, "9bbab3584e9b73330f26e2b6bb5a1b577d8e0e7458cabbae3383b44ed167a7c7"), looks := false }, kinds := [], alts := [], laidByText := true, laidKinds := [.data, .pinned], laidTests := true, laidLooks := .later }
def NumSmallCardSaid : Prop := Claim7.holds Tryd.pinned (.plain (OpenSpec.ofChange numSmallSpec)) numSmallCard

/-- THE TIED CARD OF 'florinlaw01.NumShifts'. -/
def numShiftsCard : Claim7 := { stood := { row := numShiftsRow, standIns := [], harness := (true, "9bbab3584e9b73330f26e2b6bb5a1b577d8e0e7458cabbae3383b44ed167a7c7"), looks := false }, kinds := [], alts := [], laidByText := true, laidKinds := [.data, .pinned], laidTests := true, laidLooks := .later }
def NumShiftsCardSaid : Prop := Claim7.holds Tryd.pinned (.plain (OpenSpec.ofChange numShiftsSpec)) numShiftsCard

/-- THE TIED CARD OF 'florinlaw01.NumCmps'. -/
def numCmpsCard : Claim7 := { stood := { row := numCmpsRow, standIns := [], harness := (true, "9bbab3584e9b73330f26e2b6bb5a1b577d8e0e7458cabbae3383b44ed167a7c7"), looks := false }, kinds := [], alts := [], laidByText := true, laidKinds := [.data, .pinned], laidTests := true, laidLooks := .later }
def NumCmpsCardSaid : Prop := Claim7.holds Tryd.pinned (.plain (OpenSpec.ofChange numCmpsSpec)) numCmpsCard

/-- THE SECOND FORM's CARD OF 'florinlaw01.NumTimes'. -/
def numTimesUptoCard : Claim7 := { stood := { row := numTimesUptoRow, standIns := [], harness := (true, "9bbab3584e9b73330f26e2b6bb5a1b577d8e0e7458cabbae3383b44ed167a7c7"), looks := false }, kinds := [], alts := [], laidByText := true, laidKinds := [.data, .pinned], laidTests := true, laidLooks := .later }
def NumTimesUptoCardSaid : Prop := Claim7.holds Tryd.pinned (.plain (OpenSpec.upto numTimesSpec)) numTimesUptoCard

/-- THE SECOND FORM's CARD OF 'florinlaw01.NumInts'. -/
def numIntsUptoCard : Claim7 := { stood := { row := numIntsUptoRow, standIns := [], harness := (true, "9bbab3584e9b73330f26e2b6bb5a1b577d8e0e7458cabbae3383b44ed167a7c7"), looks := false }, kinds := [], alts := [], laidByText := true, laidKinds := [.data, .pinned], laidTests := true, laidLooks := .later }
def NumIntsUptoCardSaid : Prop := Claim7.holds Tryd.pinned (.plain (OpenSpec.upto numIntsSpec)) numIntsUptoCard

/-- THE SECOND FORM's CARD OF 'florinlaw01.NumDivs'. -/
def numDivsUptoCard : Claim7 := { stood := { row := numDivsUptoRow, standIns := [], harness := (true, "9bbab3584e9b73330f26e2b6bb5a1b577d8e0e7458cabbae3383b44ed167a7c7"), looks := false }, kinds := [], alts := [], laidByText := true, laidKinds := [.data, .pinned], laidTests := true, laidLooks := .later }
def NumDivsUptoCardSaid : Prop := Claim7.holds Tryd.pinned (.plain (OpenSpec.upto numDivsSpec)) numDivsUptoCard

/-- THE SECOND FORM's CARD OF 'florinlaw01.NumAdds'. -/
def numAddsUptoCard : Claim7 := { stood := { row := numAddsUptoRow, standIns := [], harness := (true, "9bbab3584e9b73330f26e2b6bb5a1b577d8e0e7458cabbae3383b44ed167a7c7"), looks := false }, kinds := [], alts := [], laidByText := true, laidKinds := [.data, .pinned], laidTests := true, laidLooks := .later }
def NumAddsUptoCardSaid : Prop := Claim7.holds Tryd.pinned (.plain (OpenSpec.upto numAddsSpec)) numAddsUptoCard

/-- THE SECOND FORM's CARD OF 'florinlaw01.NumSubs'. -/
def numSubsUptoCard : Claim7 := { stood := { row := numSubsUptoRow, standIns := [], harness := (true, "9bbab3584e9b73330f26e2b6bb5a1b577d8e0e7458cabbae3383b44ed167a7c7"), looks := false }, kinds := [], alts := [], laidByText := true, laidKinds := [.data, .pinned], laidTests := true, laidLooks := .later }
def NumSubsUptoCardSaid : Prop := Claim7.holds Tryd.pinned (.plain (OpenSpec.upto numSubsSpec)) numSubsUptoCard

/-- THE SECOND FORM's CARD OF 'florinlaw01.NumTexts'. -/
def numTextsUptoCard : Claim7 := { stood := { row := numTextsUptoRow, standIns := [], harness := (true, "9bbab3584e9b73330f26e2b6bb5a1b577d8e0e7458cabbae3383b44ed167a7c7"), looks := false }, kinds := [], alts := [], laidByText := true, laidKinds := [.data, .pinned], laidTests := true, laidLooks := .later }
def NumTextsUptoCardSaid : Prop := Claim7.holds Tryd.pinned (.plain (OpenSpec.upto numTextsSpec)) numTextsUptoCard

/-- THE SECOND FORM's CARD OF 'florinlaw01.NumSmall'. -/
def numSmallUptoCard : Claim7 := { stood := { row := numSmallUptoRow, standIns := [], harness := (true, "9bbab3584e9b73330f26e2b6bb5a1b577d8e0e7458cabbae3383b44ed167a7c7"), looks := false }, kinds := [], alts := [], laidByText := true, laidKinds := [.data, .pinned], laidTests := true, laidLooks := .later }
def NumSmallUptoCardSaid : Prop := Claim7.holds Tryd.pinned (.plain (OpenSpec.upto numSmallSpec)) numSmallUptoCard

/-- THE SECOND FORM's CARD OF 'florinlaw01.NumShifts'. -/
def numShiftsUptoCard : Claim7 := { stood := { row := numShiftsUptoRow, standIns := [], harness := (true, "9bbab3584e9b73330f26e2b6bb5a1b577d8e0e7458cabbae3383b44ed167a7c7"), looks := false }, kinds := [], alts := [], laidByText := true, laidKinds := [.data, .pinned], laidTests := true, laidLooks := .later }
def NumShiftsUptoCardSaid : Prop := Claim7.holds Tryd.pinned (.plain (OpenSpec.upto numShiftsSpec)) numShiftsUptoCard

/-- THE SECOND FORM's CARD OF 'florinlaw01.NumCmps'. -/
def numCmpsUptoCard : Claim7 := { stood := { row := numCmpsUptoRow, standIns := [], harness := (true, "9bbab3584e9b73330f26e2b6bb5a1b577d8e0e7458cabbae3383b44ed167a7c7"), looks := false }, kinds := [], alts := [], laidByText := true, laidKinds := [.data, .pinned], laidTests := true, laidLooks := .later }
def NumCmpsUptoCardSaid : Prop := Claim7.holds Tryd.pinned (.plain (OpenSpec.upto numCmpsSpec)) numCmpsUptoCard
end Rows
end Go.Proofs.YtefacokhmmpiaaaDoor
