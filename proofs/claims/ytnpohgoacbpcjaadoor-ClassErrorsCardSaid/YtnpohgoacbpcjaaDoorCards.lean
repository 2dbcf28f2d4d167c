/-
  DERIVED. GIVEN WITH THE SEED: THE CARDS: each row of YtnpohgoacbpcjaaDoorRows.lean that lists a variable, with what it lists TIED to the program's text (the seventh form; the later family's looks); each row that meets fmt, with fmt's text TOLD by the authors' own Lean function (tested against real Go, not proved from fmt's source: count such statements apart). THE CARD IS WHAT COUNTS. Prove the row's statement (the work); the ties are given (YtnpohgoacbpcjaaDoorTie.lean); close each card by the builder's one call (the guide's Derived/Test/ToyasCard.lean, 'card_holds'). Laid BY PROGRAM, IN A SANDBOX (cutbox-door.mjs). By AI agents, Wed Nov 11 2026. No macro, syntax, notation, axiom, sorry.
-/
import Derived.Test.YtnpohgoacbpcjaaDoorRows
import GoSem.ClaimSeven
namespace Go.Proofs.YtnpohgoacbpcjaaDoor
namespace Rows

/-- THE TIED CARD OF 'florinlaw10.ClassErrors'. -/
def classErrorsCard : Claim7 := { stood := { row := classErrorsRow, standIns := [], harness := (true, "90bf8768f75e18cb8ab7743abf0c277381dce0be43ac840eb806960c2cae1e7a"), looks := true }, kinds := [], alts := [], laidByText := true, laidKinds := [.data, .data, .data, .data, .sentinel, .sentinel, .pinned], laidTests := true, laidLooks := .later }
def ClassErrorsCardSaid : Prop := Claim7.holds Tryd.pinned (.plain (OpenSpec.ofChange classErrorsSpec)) classErrorsCard

/-- THE SECOND FORM's CARD OF 'florinlaw10.ClassErrors'. -/
def classErrorsUptoCard : Claim7 := { stood := { row := classErrorsUptoRow, standIns := [], harness := (true, "90bf8768f75e18cb8ab7743abf0c277381dce0be43ac840eb806960c2cae1e7a"), looks := true }, kinds := [], alts := [], laidByText := true, laidKinds := [.data, .data, .data, .data, .sentinel, .sentinel, .pinned], laidTests := true, laidLooks := .later }
def ClassErrorsUptoCardSaid : Prop := Claim7.holds Tryd.pinned (.plain (OpenSpec.upto classErrorsSpec)) classErrorsUptoCard
end Rows
end Go.Proofs.YtnpohgoacbpcjaaDoor
