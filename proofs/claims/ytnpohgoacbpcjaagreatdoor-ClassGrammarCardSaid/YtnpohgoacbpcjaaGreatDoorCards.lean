/-
  DERIVED. GIVEN WITH THE SEED: THE CARDS: each row of YtnpohgoacbpcjaaGreatDoorRows.lean that lists a variable, with what it lists TIED to the program's text (the seventh form; the later family's looks); each row that meets fmt, with fmt's text TOLD by the authors' own Lean function (tested against real Go, not proved from fmt's source: count such statements apart). THE CARD IS WHAT COUNTS. Prove the row's statement (the work); the ties are given (YtnpohgoacbpcjaaGreatDoorTie.lean); close each card by the builder's one call (the guide's Derived/Test/ToyasCard.lean, 'card_holds'). Laid BY PROGRAM, IN A SANDBOX (cutbox-door.mjs). By AI agents, Wed Nov 11 2026. No macro, syntax, notation, axiom, sorry.
-/
import Derived.Test.YtnpohgoacbpcjaaGreatDoorRows
import GoSem.ClaimSeven
namespace Go.Proofs.YtnpohgoacbpcjaaGreatDoor
namespace Rows

/-- THE TIED CARD OF 'florinlaw10.ClassMakes'. -/
def classMakesCard : Claim7 := { stood := { row := classMakesRow, standIns := [], harness := (true, "717378a98ca29d693e2c05981543a26271ffc94a8503b75b93b46f3f44d122cd"), looks := true }, kinds := [], alts := [], laidByText := true, laidKinds := [.data, .data, .data, .data, .sentinel, .sentinel, .pinned], laidTests := true, laidLooks := .later }
def ClassMakesCardSaid : Prop := Claim7.holds Tryz.pinned (.plain (OpenSpec.ofChange classMakesSpec)) classMakesCard

/-- THE TIED CARD OF 'florinlaw10.ClassGrammar'. -/
def classGrammarCard : Claim7 := { stood := { row := classGrammarRow, standIns := [], harness := (true, "717378a98ca29d693e2c05981543a26271ffc94a8503b75b93b46f3f44d122cd"), looks := true }, kinds := [], alts := [], laidByText := true, laidKinds := [.data, .data, .data, .data, .sentinel, .sentinel, .pinned], laidTests := true, laidLooks := .later }
def ClassGrammarCardSaid : Prop := Claim7.holds Tryz.pinned (.plain (OpenSpec.ofChange classGrammarSpec)) classGrammarCard

/-- THE TIED CARD OF 'florinlaw10.ClassAgain'. -/
def classAgainCard : Claim7 := { stood := { row := classAgainRow, standIns := [], harness := (true, "717378a98ca29d693e2c05981543a26271ffc94a8503b75b93b46f3f44d122cd"), looks := true }, kinds := [], alts := [], laidByText := true, laidKinds := [.data, .data, .data, .data, .sentinel, .sentinel, .pinned], laidTests := true, laidLooks := .later }
def ClassAgainCardSaid : Prop := Claim7.holds Tryz.pinned (.plain (OpenSpec.ofChange classAgainSpec)) classAgainCard

/-- THE TIED CARD OF 'florinlaw10.ClassReads'. -/
def classReadsCard : Claim7 := { stood := { row := classReadsRow, standIns := [], harness := (true, "717378a98ca29d693e2c05981543a26271ffc94a8503b75b93b46f3f44d122cd"), looks := true }, kinds := [], alts := [], laidByText := true, laidKinds := [.data, .data, .data, .data, .sentinel, .sentinel, .pinned], laidTests := true, laidLooks := .later }
def ClassReadsCardSaid : Prop := Claim7.holds Tryz.pinned (.plain (OpenSpec.ofChange classReadsSpec)) classReadsCard

/-- THE TIED CARD OF 'florinlaw10.ClassOps'. -/
def classOpsCard : Claim7 := { stood := { row := classOpsRow, standIns := [], harness := (true, "717378a98ca29d693e2c05981543a26271ffc94a8503b75b93b46f3f44d122cd"), looks := true }, kinds := [], alts := [], laidByText := true, laidKinds := [.data, .data, .data, .data, .sentinel, .sentinel, .pinned], laidTests := true, laidLooks := .later }
def ClassOpsCardSaid : Prop := Claim7.holds Tryz.pinned (.plain (OpenSpec.ofChange classOpsSpec)) classOpsCard

/-- THE TIED CARD OF 'florinlaw10.ClassLaws'. -/
def classLawsCard : Claim7 := { stood := { row := classLawsRow, standIns := [], harness := (true, "717378a98ca29d693e2c05981543a26271ffc94a8503b75b93b46f3f44d122cd"), looks := true }, kinds := [], alts := [], laidByText := true, laidKinds := [.data, .data, .data, .data, .sentinel, .sentinel, .pinned], laidTests := true, laidLooks := .later }
def ClassLawsCardSaid : Prop := Claim7.holds Tryz.pinned (.plain (OpenSpec.ofChange classLawsSpec)) classLawsCard

/-- THE SECOND FORM's CARD OF 'florinlaw10.ClassMakes'. -/
def classMakesUptoCard : Claim7 := { stood := { row := classMakesUptoRow, standIns := [], harness := (true, "717378a98ca29d693e2c05981543a26271ffc94a8503b75b93b46f3f44d122cd"), looks := true }, kinds := [], alts := [], laidByText := true, laidKinds := [.data, .data, .data, .data, .sentinel, .sentinel, .pinned], laidTests := true, laidLooks := .later }
def ClassMakesUptoCardSaid : Prop := Claim7.holds Tryz.pinned (.plain (OpenSpec.upto classMakesSpec)) classMakesUptoCard

/-- THE SECOND FORM's CARD OF 'florinlaw10.ClassGrammar'. -/
def classGrammarUptoCard : Claim7 := { stood := { row := classGrammarUptoRow, standIns := [], harness := (true, "717378a98ca29d693e2c05981543a26271ffc94a8503b75b93b46f3f44d122cd"), looks := true }, kinds := [], alts := [], laidByText := true, laidKinds := [.data, .data, .data, .data, .sentinel, .sentinel, .pinned], laidTests := true, laidLooks := .later }
def ClassGrammarUptoCardSaid : Prop := Claim7.holds Tryz.pinned (.plain (OpenSpec.upto classGrammarSpec)) classGrammarUptoCard

/-- THE SECOND FORM's CARD OF 'florinlaw10.ClassAgain'. -/
def classAgainUptoCard : Claim7 := { stood := { row := classAgainUptoRow, standIns := [], harness := (true, "717378a98ca29d693e2c05981543a26271ffc94a8503b75b93b46f3f44d122cd"), looks := true }, kinds := [], alts := [], laidByText := true, laidKinds := [.data, .data, .data, .data, .sentinel, .sentinel, .pinned], laidTests := true, laidLooks := .later }
def ClassAgainUptoCardSaid : Prop := Claim7.holds Tryz.pinned (.plain (OpenSpec.upto classAgainSpec)) classAgainUptoCard

/-- THE SECOND FORM's CARD OF 'florinlaw10.ClassReads'. -/
def classReadsUptoCard : Claim7 := { stood := { row := classReadsUptoRow, standIns := [], harness := (true, "717378a98ca29d693e2c05981543a26271ffc94a8503b75b93b46f3f44d122cd"), looks := true }, kinds := [], alts := [], laidByText := true, laidKinds := [.data, .data, .data, .data, .sentinel, .sentinel, .pinned], laidTests := true, laidLooks := .later }
def ClassReadsUptoCardSaid : Prop := Claim7.holds Tryz.pinned (.plain (OpenSpec.upto classReadsSpec)) classReadsUptoCard

/-- THE SECOND FORM's CARD OF 'florinlaw10.ClassOps'. -/
def classOpsUptoCard : Claim7 := { stood := { row := classOpsUptoRow, standIns := [], harness := (true, "717378a98ca29d693e2c05981543a26271ffc94a8503b75b93b46f3f44d122cd"), looks := true }, kinds := [], alts := [], laidByText := true, laidKinds := [.data, .data, .data, .data, .sentinel, .sentinel, .pinned], laidTests := true, laidLooks := .later }
def ClassOpsUptoCardSaid : Prop := Claim7.holds Tryz.pinned (.plain (OpenSpec.upto classOpsSpec)) classOpsUptoCard

/-- THE SECOND FORM's CARD OF 'florinlaw10.ClassLaws'. -/
def classLawsUptoCard : Claim7 := { stood := { row := classLawsUptoRow, standIns := [], harness := (true, "717378a98ca29d693e2c05981543a26271ffc94a8503b75b93b46f3f44d122cd"), looks := true }, kinds := [], alts := [], laidByText := true, laidKinds := [.data, .data, .data, .data, .sentinel, .sentinel, .pinned], laidTests := true, laidLooks := .later }
def ClassLawsUptoCardSaid : Prop := Claim7.holds Tryz.pinned (.plain (OpenSpec.upto classLawsSpec)) classLawsUptoCard
end Rows
end Go.Proofs.YtnpohgoacbpcjaaGreatDoor
