/-
  DERIVED. GIVEN WITH THE SEED: THE CARDS: each row of YthkpmiajcmihjaaGreatDoorRows.lean that lists a variable, with what it lists TIED to the program's text (the seventh form; the later family's looks); each row that meets fmt, with fmt's text TOLD by the authors' own Lean function (tested against real Go, not proved from fmt's source: count such statements apart). THE CARD IS WHAT COUNTS. Prove the row's statement (the work); the ties are given (YthkpmiajcmihjaaGreatDoorTie.lean); close each card by the builder's one call (the guide's Derived/Test/ToyasCard.lean, 'card_holds'). Laid BY PROGRAM, IN A SANDBOX (cutbox-door.mjs). By AI agents, Wed Nov 11 2026. No macro, syntax, notation, axiom, sorry.
-/
import Derived.Test.YthkpmiajcmihjaaGreatDoorRows
import GoSem.ClaimSeven
namespace Go.Proofs.YthkpmiajcmihjaaGreatDoor
namespace Rows

/-- THE TIED CARD OF 'florinlaw04.ShowRounds'. -/
def showRoundsCard : Claim7 := { stood := { row := showRoundsRow, standIns := [], harness := (true, "bcd254b66884432e1dd3c74c178470ccb96f8b9cec695088ad6109954ce594b8"), looks := false }, kinds := [], alts := [], laidByText := true, laidKinds := [.data, .pinned], laidTests := true, laidLooks := .later }
def ShowRoundsCardSaid : Prop := Claim7.holds Tryz.pinned (.plain (OpenSpec.ofChange showRoundsSpec)) showRoundsCard

/-- THE SECOND FORM's CARD OF 'florinlaw04.ShowRounds'. -/
def showRoundsUptoCard : Claim7 := { stood := { row := showRoundsUptoRow, standIns := [], harness := (true, "bcd254b66884432e1dd3c74c178470ccb96f8b9cec695088ad6109954ce594b8"), looks := false }, kinds := [], alts := [], laidByText := true, laidKinds := [.data, .pinned], laidTests := true, laidLooks := .later }
def ShowRoundsUptoCardSaid : Prop := Claim7.holds Tryz.pinned (.plain (OpenSpec.upto showRoundsSpec)) showRoundsUptoCard
end Rows
end Go.Proofs.YthkpmiajcmihjaaGreatDoor
