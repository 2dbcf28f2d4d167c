/-
  DERIVED. GIVEN WITH THE SEED: THE CARDS: each row of YtadagjgkanlmdaaGreatDoorRows.lean that lists a variable, with what it lists TIED to the program's text (the seventh form; the later family's looks); each row that meets fmt, with fmt's text TOLD by the authors' own Lean function (tested against real Go, not proved from fmt's source: count such statements apart). THE CARD IS WHAT COUNTS. Prove the row's statement (the work); the ties are given (YtadagjgkanlmdaaGreatDoorTie.lean); close each card by the builder's one call (the guide's Derived/Test/ToyasCard.lean, 'card_holds'). Laid BY PROGRAM, IN A SANDBOX (cutbox-door.mjs). By AI agents, Wed Nov 11 2026. No macro, syntax, notation, axiom, sorry.
-/
import Derived.Test.YtadagjgkanlmdaaGreatDoorRows
import GoSem.ClaimSeven
namespace Go.Proofs.YtadagjgkanlmdaaGreatDoor
namespace Rows

/-- THE TIED CARD OF 'florinlaw07.EvalOrders'. -/
def evalOrdersCard : Claim7 := { stood := { row := evalOrdersRow, standIns := [], harness := (true, "cb670a35c9a0894f69f949e65426166a60378a9ee7222ab0d1f3e46fa97b18e7"), looks := true }, kinds := [], alts := [], laidByText := true, laidKinds := [.data, .data, .data, .data, .sentinel, .sentinel, .pinned], laidTests := true, laidLooks := .later }
def EvalOrdersCardSaid : Prop := Claim7.holds Tryz.pinned (.plain (OpenSpec.ofChange evalOrdersSpec)) evalOrdersCard

/-- THE TIED CARD OF 'florinlaw07.EvalNots'. -/
def evalNotsCard : Claim7 := { stood := { row := evalNotsRow, standIns := [], harness := (true, "cb670a35c9a0894f69f949e65426166a60378a9ee7222ab0d1f3e46fa97b18e7"), looks := true }, kinds := [], alts := [], laidByText := true, laidKinds := [.data, .data, .data, .data, .sentinel, .sentinel, .pinned], laidTests := true, laidLooks := .later }
def EvalNotsCardSaid : Prop := Claim7.holds Tryz.pinned (.plain (OpenSpec.ofChange evalNotsSpec)) evalNotsCard

/-- THE TIED CARD OF 'florinlaw07.EvalEnglish'. -/
def evalEnglishCard : Claim7 := { stood := { row := evalEnglishRow, standIns := [], harness := (true, "cb670a35c9a0894f69f949e65426166a60378a9ee7222ab0d1f3e46fa97b18e7"), looks := true }, kinds := [], alts := [], laidByText := true, laidKinds := [.data, .data, .data, .data, .sentinel, .sentinel, .pinned], laidTests := true, laidLooks := .later }
def EvalEnglishCardSaid : Prop := Claim7.holds Tryz.pinned (.plain (OpenSpec.ofChange evalEnglishSpec)) evalEnglishCard

/-- THE TIED CARD OF 'florinlaw07.EvalPeriods'. -/
def evalPeriodsCard : Claim7 := { stood := { row := evalPeriodsRow, standIns := [], harness := (true, "cb670a35c9a0894f69f949e65426166a60378a9ee7222ab0d1f3e46fa97b18e7"), looks := true }, kinds := [], alts := [], laidByText := true, laidKinds := [.data, .data, .data, .data, .sentinel, .sentinel, .pinned], laidTests := true, laidLooks := .later }
def EvalPeriodsCardSaid : Prop := Claim7.holds Tryz.pinned (.plain (OpenSpec.ofChange evalPeriodsSpec)) evalPeriodsCard

/-- THE TIED CARD OF 'florinlaw07.EvalHolds'. -/
def evalHoldsCard : Claim7 := { stood := { row := evalHoldsRow, standIns := [], harness := (true, "cb670a35c9a0894f69f949e65426166a60378a9ee7222ab0d1f3e46fa97b18e7"), looks := true }, kinds := [], alts := [], laidByText := true, laidKinds := [.data, .data, .data, .data, .sentinel, .sentinel, .pinned], laidTests := true, laidLooks := .later }
def EvalHoldsCardSaid : Prop := Claim7.holds Tryz.pinned (.plain (OpenSpec.ofChange evalHoldsSpec)) evalHoldsCard

/-- THE SECOND FORM's CARD OF 'florinlaw07.EvalOrders'. -/
def evalOrdersUptoCard : Claim7 := { stood := { row := evalOrdersUptoRow, standIns := [], harness := (true, "cb670a35c9a0894f69f949e65426166a60378a9ee7222ab0d1f3e46fa97b18e7"), looks := true }, kinds := [], alts := [], laidByText := true, laidKinds := [.data, .data, .data, .data, .sentinel, .sentinel, .pinned], laidTests := true, laidLooks := .later }
def EvalOrdersUptoCardSaid : Prop := Claim7.holds Tryz.pinned (.plain (OpenSpec.upto evalOrdersSpec)) evalOrdersUptoCard

/-- THE SECOND FORM's CARD OF 'florinlaw07.EvalNots'. -/
def evalNotsUptoCard : Claim7 := { stood := { row := evalNotsUptoRow, standIns := [], harness := (true, "cb670a35c9a0894f69f949e65426166a60378a9ee7222ab0d1f3e46fa97b18e7"), looks := true }, kinds := [], alts := [], laidByText := true, laidKinds := [.data, .data, .data, .data, .sentinel, .sentinel, .pinned], laidTests := true, laidLooks := .later }
def EvalNotsUptoCardSaid : Prop := Claim7.holds Tryz.pinned (.plain (OpenSpec.upto evalNotsSpec)) evalNotsUptoCard

/-- THE SECOND FORM's CARD OF 'florinlaw07.EvalEnglish'. -/
def evalEnglishUptoCard : Claim7 := { stood := { row := evalEnglishUptoRow, standIns := [], harness := (true, "cb670a35c9a0894f69f949e65426166a60378a9ee7222ab0d1f3e46fa97b18e7"), looks := true }, kinds := [], alts := [], laidByText := true, laidKinds := [.data, .data, .data, .data, .sentinel, .sentinel, .pinned], laidTests := true, laidLooks := .later }
def EvalEnglishUptoCardSaid : Prop := Claim7.holds Tryz.pinned (.plain (OpenSpec.upto evalEnglishSpec)) evalEnglishUptoCard

/-- THE SECOND FORM's CARD OF 'florinlaw07.EvalPeriods'. -/
def evalPeriodsUptoCard : Claim7 := { stood := { row := evalPeriodsUptoRow, standIns := [], harness := (true, "cb670a35c9a0894f69f949e65426166a60378a9ee7222ab0d1f3e46fa97b18e7"), looks := true }, kinds := [], alts := [], laidByText := true, laidKinds := [.data, .data, .data, .data, .sentinel, .sentinel, .pinned], laidTests := true, laidLooks := .later }
def EvalPeriodsUptoCardSaid : Prop := Claim7.holds Tryz.pinned (.plain (OpenSpec.upto evalPeriodsSpec)) evalPeriodsUptoCard

/-- THE SECOND FORM's CARD OF 'florinlaw07.EvalHolds'. -/
def evalHoldsUptoCard : Claim7 := { stood := { row := evalHoldsUptoRow, standIns := [], harness := (true, "cb670a35c9a0894f69f949e65426166a60378a9ee7222ab0d1f3e46fa97b18e7"), looks := true }, kinds := [], alts := [], laidByText := true, laidKinds := [.data, .data, .data, .data, .sentinel, .sentinel, .pinned], laidTests := true, laidLooks := .later }
def EvalHoldsUptoCardSaid : Prop := Claim7.holds Tryz.pinned (.plain (OpenSpec.upto evalHoldsSpec)) evalHoldsUptoCard
end Rows
end Go.Proofs.YtadagjgkanlmdaaGreatDoor
