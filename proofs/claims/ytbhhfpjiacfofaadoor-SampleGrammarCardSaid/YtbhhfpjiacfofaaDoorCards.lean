/-
  DERIVED. GIVEN WITH THE SEED: THE CARDS: each row of YtbhhfpjiacfofaaDoorRows.lean that lists a variable, with what it lists TIED to the program's text (the seventh form; the later family's looks); each row that meets fmt, with fmt's text TOLD by the authors' own Lean function (tested against real Go, not proved from fmt's source: count such statements apart). THE CARD IS WHAT COUNTS. Prove the row's statement (the work); the ties are given (YtbhhfpjiacfofaaDoorTie.lean); close each card by the builder's one call (the guide's Derived/Test/ToyasCard.lean, 'card_holds'). Laid BY PROGRAM, IN A SANDBOX (cutbox-door.mjs). By AI agents, Wed Nov 11 2026. No macro, syntax, notation, axiom, sorry.
-/
import Derived.Test.YtbhhfpjiacfofaaDoorRows
import GoSem.ClaimSeven
namespace Go.Proofs.YtbhhfpjiacfofaaDoor
namespace Rows

/-- THE TIED CARD OF 'florinlaw08.SampleGrammar'. -/
def sampleGrammarCard : Claim7 := { stood := { row := sampleGrammarRow, standIns := [], harness := (true, "340c44ab78a3c5df93dd61a26eb9047ca0421a7e11364d7851ad89e2893db0db"), looks := true }, kinds := [], alts := [], laidByText := true, laidKinds := [.data, .pinned], laidTests := true, laidLooks := .later }
def SampleGrammarCardSaid : Prop := Claim7.holds Tryd.pinned (.plain (OpenSpec.ofChange sampleGrammarSpec)) sampleGrammarCard

/-- THE TIED CARD OF 'florinlaw08.SampleReads'. -/
def sampleReadsCard : Claim7 := { stood := { row := sampleReadsRow, standIns := [], harness := (true, "340c44ab78a3c5df93dd61a26eb9047ca0421a7e11364d7851ad89e2893db0db"), looks := true }, kinds := [], alts := [], laidByText := true, laidKinds := [.data, .pinned], laidTests := true, laidLooks := .later }
def SampleReadsCardSaid : Prop := Claim7.holds Tryd.pinned (.plain (OpenSpec.ofChange sampleReadsSpec)) sampleReadsCard

/-- THE TIED CARD OF 'florinlaw08.SampleErrors'. -/
def sampleErrorsCard : Claim7 := { stood := { row := sampleErrorsRow, standIns := [], harness := (true, "340c44ab78a3c5df93dd61a26eb9047ca0421a7e11364d7851ad89e2893db0db"), looks := true }, kinds := [], alts := [], laidByText := true, laidKinds := [.data, .pinned], laidTests := true, laidLooks := .later }
def SampleErrorsCardSaid : Prop := Claim7.holds Tryd.pinned (.plain (OpenSpec.ofChange sampleErrorsSpec)) sampleErrorsCard

/-- THE SECOND FORM's CARD OF 'florinlaw08.SampleGrammar'. -/
def sampleGrammarUptoCard : Claim7 := { stood := { row := sampleGrammarUptoRow, standIns := [], harness := (true, "340c44ab78a3c5df93dd61a26eb9047ca0421a7e11364d7851ad89e2893db0db"), looks := true }, kinds := [], alts := [], laidByText := true, laidKinds := [.data, .pinned], laidTests := true, laidLooks := .later }
def SampleGrammarUptoCardSaid : Prop := Claim7.holds Tryd.pinned (.plain (OpenSpec.upto sampleGrammarSpec)) sampleGrammarUptoCard

/-- THE SECOND FORM's CARD OF 'florinlaw08.SampleReads'. -/
def sampleReadsUptoCard : Claim7 := { stood := { row := sampleReadsUptoRow, standIns := [], harness := (true, "340c44ab78a3c5df93dd61a26eb9047ca0421a7e11364d7851ad89e2893db0db"), looks := true }, kinds := [], alts := [], laidByText := true, laidKinds := [.data, .pinned], laidTests := true, laidLooks := .later }
def SampleReadsUptoCardSaid : Prop := Claim7.holds Tryd.pinned (.plain (OpenSpec.upto sampleReadsSpec)) sampleReadsUptoCard

/-- THE SECOND FORM's CARD OF 'florinlaw08.SampleErrors'. -/
def sampleErrorsUptoCard : Claim7 := { stood := { row := sampleErrorsUptoRow, standIns := [], harness := (true, "340c44ab78a3c5df93dd61a26eb9047ca0421a7e11364d7851ad89e2893db0db"), looks := true }, kinds := [], alts := [], laidByText := true, laidKinds := [.data, .pinned], laidTests := true, laidLooks := .later }
def SampleErrorsUptoCardSaid : Prop := Claim7.holds Tryd.pinned (.plain (OpenSpec.upto sampleErrorsSpec)) sampleErrorsUptoCard
end Rows
end Go.Proofs.YtbhhfpjiacfofaaDoor
