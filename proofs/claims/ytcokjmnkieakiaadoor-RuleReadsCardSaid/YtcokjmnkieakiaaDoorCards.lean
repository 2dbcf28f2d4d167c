/-
  DERIVED. GIVEN WITH THE SEED: THE CARDS: each row of YtcokjmnkieakiaaDoorRows.lean that lists a variable, with what it lists TIED to the program's text (the seventh form; the later family's looks); each row that meets fmt, with fmt's text TOLD by the authors' own Lean function (tested against real Go, not proved from fmt's source: count such statements apart). THE CARD IS WHAT COUNTS. Prove the row's statement (the work); the ties are given (YtcokjmnkieakiaaDoorTie.lean); close each card by the builder's one call (the guide's Derived/Test/ToyasCard.lean, 'card_holds'). Laid BY PROGRAM, IN A SANDBOX (cutbox-door.mjs). By AI agents, Wed Nov 11 2026. No macro, syntax, notation, axiom, sorry.
-/
import Derived.Test.YtcokjmnkieakiaaDoorRows
import GoSem.ClaimSeven
namespace Go.Proofs.YtcokjmnkieakiaaDoor
namespace Rows

/-- THE TIED CARD OF 'florinlaw06.RuleReads'. -/
def ruleReadsCard : Claim7 := { stood := { row := ruleReadsRow, standIns := [], harness := (true, "165080c72a82a33a4c51018aa1da13645dbfea45c245a6e8cf46cc3522c43154"), looks := true }, kinds := [], alts := [], laidByText := true, laidKinds := [.data, .data, .data, .data, .sentinel, .sentinel, .pinned], laidTests := true, laidLooks := .later }
def RuleReadsCardSaid : Prop := Claim7.holds Tryd.pinned (.plain (OpenSpec.ofChange ruleReadsSpec)) ruleReadsCard

/-- THE TIED CARD OF 'florinlaw06.RuleErrors'. -/
def ruleErrorsCard : Claim7 := { stood := { row := ruleErrorsRow, standIns := [], harness := (true, "165080c72a82a33a4c51018aa1da13645dbfea45c245a6e8cf46cc3522c43154"), looks := true }, kinds := [], alts := [], laidByText := true, laidKinds := [.data, .data, .data, .data, .sentinel, .sentinel, .pinned], laidTests := true, laidLooks := .later }
def RuleErrorsCardSaid : Prop := Claim7.holds Tryd.pinned (.plain (OpenSpec.ofChange ruleErrorsSpec)) ruleErrorsCard

/-- THE TIED CARD OF 'florinlaw06.RuleMany'. -/
def ruleManyCard : Claim7 := { stood := { row := ruleManyRow, standIns := [], harness := (true, "165080c72a82a33a4c51018aa1da13645dbfea45c245a6e8cf46cc3522c43154"), looks := true }, kinds := [], alts := [], laidByText := true, laidKinds := [.data, .data, .data, .data, .sentinel, .sentinel, .pinned], laidTests := true, laidLooks := .later }
def RuleManyCardSaid : Prop := Claim7.holds Tryd.pinned (.plain (OpenSpec.ofChange ruleManySpec)) ruleManyCard

/-- THE TIED CARD OF 'florinlaw06.RuleWords'. -/
def ruleWordsCard : Claim7 := { stood := { row := ruleWordsRow, standIns := [], harness := (true, "165080c72a82a33a4c51018aa1da13645dbfea45c245a6e8cf46cc3522c43154"), looks := true }, kinds := [], alts := [], laidByText := true, laidKinds := [.data, .data, .data, .data, .sentinel, .sentinel, .pinned], laidTests := true, laidLooks := .later }
def RuleWordsCardSaid : Prop := Claim7.holds Tryd.pinned (.plain (OpenSpec.ofChange ruleWordsSpec)) ruleWordsCard

/-- THE SECOND FORM's CARD OF 'florinlaw06.RuleReads'. -/
def ruleReadsUptoCard : Claim7 := { stood := { row := ruleReadsUptoRow, standIns := [], harness := (true, "165080c72a82a33a4c51018aa1da13645dbfea45c245a6e8cf46cc3522c43154"), looks := true }, kinds := [], alts := [], laidByText := true, laidKinds := [.data, .data, .data, .data, .sentinel, .sentinel, .pinned], laidTests := true, laidLooks := .later }
def RuleReadsUptoCardSaid : Prop := Claim7.holds Tryd.pinned (.plain (OpenSpec.upto ruleReadsSpec)) ruleReadsUptoCard

/-- THE SECOND FORM's CARD OF 'florinlaw06.RuleErrors'. -/
def ruleErrorsUptoCard : Claim7 := { stood := { row := ruleErrorsUptoRow, standIns := [], harness := (true, "165080c72a82a33a4c51018aa1da13645dbfea45c245a6e8cf46cc3522c43154"), looks := true }, kinds := [], alts := [], laidByText := true, laidKinds := [.data, .data, .data, .data, .sentinel, .sentinel, .pinned], laidTests := true, laidLooks := .later }
def RuleErrorsUptoCardSaid : Prop := Claim7.holds Tryd.pinned (.plain (OpenSpec.upto ruleErrorsSpec)) ruleErrorsUptoCard

/-- THE SECOND FORM's CARD OF 'florinlaw06.RuleMany'. -/
def ruleManyUptoCard : Claim7 := { stood := { row := ruleManyUptoRow, standIns := [], harness := (true, "165080c72a82a33a4c51018aa1da13645dbfea45c245a6e8cf46cc3522c43154"), looks := true }, kinds := [], alts := [], laidByText := true, laidKinds := [.data, .data, .data, .data, .sentinel, .sentinel, .pinned], laidTests := true, laidLooks := .later }
def RuleManyUptoCardSaid : Prop := Claim7.holds Tryd.pinned (.plain (OpenSpec.upto ruleManySpec)) ruleManyUptoCard

/-- THE SECOND FORM's CARD OF 'florinlaw06.RuleWords'. -/
def ruleWordsUptoCard : Claim7 := { stood := { row := ruleWordsUptoRow, standIns := [], harness := (true, "165080c72a82a33a4c51018aa1da13645dbfea45c245a6e8cf46cc3522c43154"), looks := true }, kinds := [], alts := [], laidByText := true, laidKinds := [.data, .data, .data, .data, .sentinel, .sentinel, .pinned], laidTests := true, laidLooks := .later }
def RuleWordsUptoCardSaid : Prop := Claim7.holds Tryd.pinned (.plain (OpenSpec.upto ruleWordsSpec)) ruleWordsUptoCard
end Rows
end Go.Proofs.YtcokjmnkieakiaaDoor
