/-
  DERIVED. GIVEN WITH THE SEED: THE CARDS: each row of YtcokjmnkieakiaaGreatDoorRows.lean that lists a variable, with what it lists TIED to the program's text (the seventh form; the later family's looks); each row that meets fmt, with fmt's text TOLD by the authors' own Lean function (tested against real Go, not proved from fmt's source: count such statements apart). THE CARD IS WHAT COUNTS. Prove the row's statement (the work); the ties are given (YtcokjmnkieakiaaGreatDoorTie.lean); close each card by the builder's one call (the guide's Derived/Test/ToyasCard.lean, 'card_holds'). Laid BY PROGRAM, IN A SANDBOX (cutbox-door.mjs). By AI agents, Wed Nov 11 2026. No macro, syntax, notation, axiom, sorry.
-/
import Derived.Test.YtcokjmnkieakiaaGreatDoorRows
import GoSem.ClaimSeven
namespace Go.Proofs.YtcokjmnkieakiaaGreatDoor
namespace Rows

/-- THE TIED CARD OF 'florinlaw06.RuleGrammar'. -/
def ruleGrammarCard : Claim7 := { stood := { row := ruleGrammarRow, standIns := [], harness := (true, "f6dcd0d80a70d4eec639497b1a86f6e6b6f22f6bfa9ae8c70e6b01d34b5b5fbc"), looks := true }, kinds := [], alts := [], laidByText := true, laidKinds := [.data, .data, .data, .data, .sentinel, .sentinel, .pinned], laidTests := true, laidLooks := .later }
def RuleGrammarCardSaid : Prop := Claim7.holds Tryz.pinned (.plain (OpenSpec.ofChange ruleGrammarSpec)) ruleGrammarCard

/-- THE TIED CARD OF 'florinlaw06.RuleAgain'. -/
def ruleAgainCard : Claim7 := { stood := { row := ruleAgainRow, standIns := [], harness := (true, "f6dcd0d80a70d4eec639497b1a86f6e6b6f22f6bfa9ae8c70e6b01d34b5b5fbc"), looks := true }, kinds := [], alts := [], laidByText := true, laidKinds := [.data, .data, .data, .data, .sentinel, .sentinel, .pinned], laidTests := true, laidLooks := .later }
def RuleAgainCardSaid : Prop := Claim7.holds Tryz.pinned (.plain (OpenSpec.ofChange ruleAgainSpec)) ruleAgainCard

/-- THE TIED CARD OF 'florinlaw06.RuleOrders'. -/
def ruleOrdersCard : Claim7 := { stood := { row := ruleOrdersRow, standIns := [], harness := (true, "f6dcd0d80a70d4eec639497b1a86f6e6b6f22f6bfa9ae8c70e6b01d34b5b5fbc"), looks := true }, kinds := [], alts := [], laidByText := true, laidKinds := [.data, .data, .data, .data, .sentinel, .sentinel, .pinned], laidTests := true, laidLooks := .later }
def RuleOrdersCardSaid : Prop := Claim7.holds Tryz.pinned (.plain (OpenSpec.ofChange ruleOrdersSpec)) ruleOrdersCard

/-- THE SECOND FORM's CARD OF 'florinlaw06.RuleGrammar'. -/
def ruleGrammarUptoCard : Claim7 := { stood := { row := ruleGrammarUptoRow, standIns := [], harness := (true, "f6dcd0d80a70d4eec639497b1a86f6e6b6f22f6bfa9ae8c70e6b01d34b5b5fbc"), looks := true }, kinds := [], alts := [], laidByText := true, laidKinds := [.data, .data, .data, .data, .sentinel, .sentinel, .pinned], laidTests := true, laidLooks := .later }
def RuleGrammarUptoCardSaid : Prop := Claim7.holds Tryz.pinned (.plain (OpenSpec.upto ruleGrammarSpec)) ruleGrammarUptoCard

/-- THE SECOND FORM's CARD OF 'florinlaw06.RuleAgain'. -/
def ruleAgainUptoCard : Claim7 := { stood := { row := ruleAgainUptoRow, standIns := [], harness := (true, "f6dcd0d80a70d4eec639497b1a86f6e6b6f22f6bfa9ae8c70e6b01d34b5b5fbc"), looks := true }, kinds := [], alts := [], laidByText := true, laidKinds := [.data, .data, .data, .data, .sentinel, .sentinel, .pinned], laidTests := true, laidLooks := .later }
def RuleAgainUptoCardSaid : Prop := Claim7.holds Tryz.pinned (.plain (OpenSpec.upto ruleAgainSpec)) ruleAgainUptoCard

/-- THE SECOND FORM's CARD OF 'florinlaw06.RuleOrders'. -/
def ruleOrdersUptoCard : Claim7 := { stood := { row := ruleOrdersUptoRow, standIns := [], harness := (true, "f6dcd0d80a70d4eec639497b1a86f6e6b6f22f6bfa9ae8c70e6b01d34b5b5fbc"), looks := true }, kinds := [], alts := [], laidByText := true, laidKinds := [.data, .data, .data, .data, .sentinel, .sentinel, .pinned], laidTests := true, laidLooks := .later }
def RuleOrdersUptoCardSaid : Prop := Claim7.holds Tryz.pinned (.plain (OpenSpec.upto ruleOrdersSpec)) ruleOrdersUptoCard
end Rows
end Go.Proofs.YtcokjmnkieakiaaGreatDoor
