/-
  DERIVED. GIVEN WITH THE SEED: THE CARDS: each row of YthkpmiajcmihjaaDoorRows.lean that lists a variable, with what it lists TIED to the program's text (the seventh form; the later family's looks); each row that meets fmt, with fmt's text TOLD by the authors' own Lean function (tested against real Go, not proved from fmt's source: count such statements apart). THE CARD IS WHAT COUNTS. Prove the row's statement (the work); the ties are given (YthkpmiajcmihjaaDoorTie.lean); close each card by the builder's one call (the guide's Derived/Test/ToyasCard.lean, 'card_holds'). Laid BY PROGRAM, IN A SANDBOX (cutbox-door.mjs). By AI agents, Wed Nov 11 2026. No macro, syntax, notation, axiom, sorry.
-/
import Derived.Test.YthkpmiajcmihjaaDoorRows
import GoSem.ClaimSeven
namespace Go.Proofs.YthkpmiajcmihjaaDoor
namespace Rows

/-- THE TIED CARD OF 'florinlaw04.ShowValid'. -/
def showValidCard : Claim7 := { stood := { row := showValidRow, standIns := [], harness := (true, "cf4d3ca5655829118dd9bc664cc9619f3eef95d3c572f43b5ad1aef6a31da5e2"), looks := false }, kinds := [], alts := [], laidByText := true, laidKinds := [.data, .pinned], laidTests := true, laidLooks := .later }
def ShowValidCardSaid : Prop := Claim7.holds Tryd.pinned (.plain (OpenSpec.ofChange showValidSpec)) showValidCard

/-- THE TIED CARD OF 'florinlaw04.ShowDigits'. -/
def showDigitsCard : Claim7 := { stood := { row := showDigitsRow, standIns := [], harness := (true, "cf4d3ca5655829118dd9bc664cc9619f3eef95d3c572f43b5ad1aef6a31da5e2"), looks := false }, kinds := [], alts := [], laidByText := true, laidKinds := [.data, .pinned], laidTests := true, laidLooks := .later }
def ShowDigitsCardSaid : Prop := Claim7.holds Tryd.pinned (.plain (OpenSpec.ofChange showDigitsSpec)) showDigitsCard

/-- THE TIED CARD OF 'florinlaw04.ShowMore'. -/
def showMoreCard : Claim7 := { stood := { row := showMoreRow, standIns := [], harness := (true, "cf4d3ca5655829118dd9bc664cc9619f3eef95d3c572f43b5ad1aef6a31da5e2"), looks := false }, kinds := [], alts := [], laidByText := true, laidKinds := [.data, .pinned], laidTests := true, laidLooks := .later }
def ShowMoreCardSaid : Prop := Claim7.holds Tryd.pinned (.plain (OpenSpec.ofChange showMoreSpec)) showMoreCard

/-- THE TIED CARD OF 'florinlaw04.ShowTexts'. -/
def showTextsCard : Claim7 := { stood := { row := showTextsRow, standIns := [], harness := (true, "cf4d3ca5655829118dd9bc664cc9619f3eef95d3c572f43b5ad1aef6a31da5e2"), looks := false }, kinds := [], alts := [], laidByText := true, laidKinds := [.data, .pinned], laidTests := true, laidLooks := .later }
def ShowTextsCardSaid : Prop := Claim7.holds Tryd.pinned (.plain (OpenSpec.ofChange showTextsSpec)) showTextsCard

/-- THE TIED CARD OF 'florinlaw04.ShowAgain'. -/
def showAgainCard : Claim7 := { stood := { row := showAgainRow, standIns := [], harness := (true, "cf4d3ca5655829118dd9bc664cc9619f3eef95d3c572f43b5ad1aef6a31da5e2"), looks := false }, kinds := [], alts := [], laidByText := true, laidKinds := [.data, .pinned], laidTests := true, laidLooks := .later }
def ShowAgainCardSaid : Prop := Claim7.holds Tryd.pinned (.plain (OpenSpec.ofChange showAgainSpec)) showAgainCard

/-- THE SECOND FORM's CARD OF 'florinlaw04.ShowValid'. -/
def showValidUptoCard : Claim7 := { stood := { row := showValidUptoRow, standIns := [], harness := (true, "cf4d3ca5655829118dd9bc664cc9619f3eef95d3c572f43b5ad1aef6a31da5e2"), looks := false }, kinds := [], alts := [], laidByText := true, laidKinds := [.data, .pinned], laidTests := true, laidLooks := .later }
def ShowValidUptoCardSaid : Prop := Claim7.holds Tryd.pinned (.plain (OpenSpec.upto showValidSpec)) showValidUptoCard

/-- THE SECOND FORM's CARD OF 'florinlaw04.ShowDigits'. -/
def showDigitsUptoCard : Claim7 := { stood := { row := showDigitsUptoRow, standIns := [], harness := (true, "cf4d3ca5655829118dd9bc664cc9619f3eef95d3c572f43b5ad1aef6a31da5e2"), looks := false }, kinds := [], alts := [], laidByText := true, laidKinds := [.data, .pinned], laidTests := true, laidLooks := .later }
def ShowDigitsUptoCardSaid : Prop := Claim7.holds Tryd.pinned (.plain (OpenSpec.upto showDigitsSpec)) showDigitsUptoCard

/-- THE SECOND FORM's CARD OF 'florinlaw04.ShowMore'. -/
def showMoreUptoCard : Claim7 := { stood := { row := showMoreUptoRow, standIns := [], harness := (true, "cf4d3ca5655829118dd9bc664cc9619f3eef95d3c572f43b5ad1aef6a31da5e2"), looks := false }, kinds := [], alts := [], laidByText := true, laidKinds := [.data, .pinned], laidTests := true, laidLooks := .later }
def ShowMoreUptoCardSaid : Prop := Claim7.holds Tryd.pinned (.plain (OpenSpec.upto showMoreSpec)) showMoreUptoCard

/-- THE SECOND FORM's CARD OF 'florinlaw04.ShowTexts'. -/
def showTextsUptoCard : Claim7 := { stood := { row := showTextsUptoRow, standIns := [], harness := (true, "cf4d3ca5655829118dd9bc664cc9619f3eef95d3c572f43b5ad1aef6a31da5e2"), looks := false }, kinds := [], alts := [], laidByText := true, laidKinds := [.data, .pinned], laidTests := true, laidLooks := .later }
def ShowTextsUptoCardSaid : Prop := Claim7.holds Tryd.pinned (.plain (OpenSpec.upto showTextsSpec)) showTextsUptoCard

/-- THE SECOND FORM's CARD OF 'florinlaw04.ShowAgain'. -/
def showAgainUptoCard : Claim7 := { stood := { row := showAgainUptoRow, standIns := [], harness := (true, "cf4d3ca5655829118dd9bc664cc9619f3eef95d3c572f43b5ad1aef6a31da5e2"), looks := false }, kinds := [], alts := [], laidByText := true, laidKinds := [.data, .pinned], laidTests := true, laidLooks := .later }
def ShowAgainUptoCardSaid : Prop := Claim7.holds Tryd.pinned (.plain (OpenSpec.upto showAgainSpec)) showAgainUptoCard
end Rows
end Go.Proofs.YthkpmiajcmihjaaDoor
