/-
  DERIVED. GIVEN WITH THE SEED: THE CARDS: each row of YtoegmienlhgjnaaDoorRows.lean that lists a variable, with what it lists TIED to the program's text (the seventh form; the later family's looks); each row that meets fmt, with fmt's text TOLD by the authors' own Lean function (tested against real Go, not proved from fmt's source: count such statements apart). THE CARD IS WHAT COUNTS. Prove the row's statement (the work); the ties are given (YtoegmienlhgjnaaDoorTie.lean); close each card by the builder's one call (the guide's Derived/Test/ToyasCard.lean, 'card_holds'). Laid BY PROGRAM, IN A SANDBOX (cutbox-door.mjs). By AI agents, Wed Nov 11 2026. No macro, syntax, notation, axiom, sorry.
-/
import Derived.Test.YtoegmienlhgjnaaDoorRows
import GoSem.ClaimSeven
namespace Go.Proofs.YtoegmienlhgjnaaDoor
namespace Rows

/-- THE TIED CARD OF 'florinlaw03.RoundTwice'. -/
def roundTwiceCard : Claim7 := { stood := { row := roundTwiceRow, standIns := [], harness := (true, "1171046edadb17c077e4da3e5ff8de7e615ce416fadb93d587cadbcdb7396bc4"), looks := false }, kinds := [], alts := [], laidByText := true, laidKinds := [.data, .pinned], laidTests := true, laidLooks := .later }
def RoundTwiceCardSaid : Prop := Claim7.holds Tryd.pinned (.plain (OpenSpec.ofChange roundTwiceSpec)) roundTwiceCard

/-- THE TIED CARD OF 'florinlaw03.RoundSigns'. -/
def roundSignsCard : Claim7 := { stood := { row := roundSignsRow, standIns := [], harness := (true, "1171046edadb17c077e4da3e5ff8de7e615ce416fadb93d587cadbcdb7396bc4"), looks := false }, kinds := [], alts := [], laidByText := true, laidKinds := [.data, .pinned], laidTests := true, laidLooks := .later }
def RoundSignsCardSaid : Prop := Claim7.holds Tryd.pinned (.plain (OpenSpec.ofChange roundSignsSpec)) roundSignsCard

/-- THE TIED CARD OF 'florinlaw03.RoundBounds'. -/
def roundBoundsCard : Claim7 := { stood := { row := roundBoundsRow, standIns := [], harness := (true, "1171046edadb17c077e4da3e5ff8de7e615ce416fadb93d587cadbcdb7396bc4"), looks := false }, kinds := [], alts := [], laidByText := true, laidKinds := [.data, .pinned], laidTests := true, laidLooks := .later }
def RoundBoundsCardSaid : Prop := Claim7.holds Tryd.pinned (.plain (OpenSpec.ofChange roundBoundsSpec)) roundBoundsCard

/-- THE TIED CARD OF 'florinlaw03.RoundAt'. -/
def roundAtCard : Claim7 := { stood := { row := roundAtRow, standIns := [], harness := (true, "1171046edadb17c077e4da3e5ff8de7e615ce416fadb93d587cadbcdb7396bc4"), looks := false }, kinds := [], alts := [], laidByText := true, laidKinds := [.data, .pinned], laidTests := true, laidLooks := .later }
def RoundAtCardSaid : Prop := Claim7.holds Tryd.pinned (.plain (OpenSpec.ofChange roundAtSpec)) roundAtCard

/-- THE TIED CARD OF 'florinlaw03.RoundSig'. -/
def roundSigCard : Claim7 := { stood := { row := roundSigRow, standIns := [], harness := (true, "1171046edadb17c077e4da3e5ff8de7e615ce416fadb93d587cadbcdb7396bc4"), looks := false }, kinds := [], alts := [], laidByText := true, laidKinds := [.data, .pinned], laidTests := true, laidLooks := .later }
def RoundSigCardSaid : Prop := Claim7.holds Tryd.pinned (.plain (OpenSpec.ofChange roundSigSpec)) roundSigCard

/-- THE TIED CARD OF 'florinlaw03.RoundAgain'. -/
def roundAgainCard : Claim7 := { stood := { row := roundAgainRow, standIns := [], harness := (true, "1171046edadb17c077e4da3e5ff8de7e615ce416fadb93d587cadbcdb7396bc4"), looks := false }, kinds := [], alts := [], laidByText := true, laidKinds := [.data, .pinned], laidTests := true, laidLooks := .later }
def RoundAgainCardSaid : Prop := Claim7.holds Tryd.pinned (.plain (OpenSpec.ofChange roundAgainSpec)) roundAgainCard

/-- THE TIED CARD OF 'florinlaw03.RoundStep'. -/
def roundStepCard : Claim7 := { stood := { row := roundStepRow, standIns := [], harness := (true, "1171046edadb17c077e4da3e5ff8de7e615ce416fadb93d587cadbcdb7396bc4"), looks := false }, kinds := [], alts := [], laidByText := true, laidKinds := [.data, .pinned], laidTests := true, laidLooks := .later }
def RoundStepCardSaid : Prop := Claim7.holds Tryd.pinned (.plain (OpenSpec.ofChange roundStepSpec)) roundStepCard

/-- THE SECOND FORM's CARD OF 'florinlaw03.RoundTwice'. -/
def roundTwiceUptoCard : Claim7 := { stood := { row := roundTwiceUptoRow, standIns := [], harness := (true, "1171046edadb17c077e4da3e5ff8de7e615ce416fadb93d587cadbcdb7396bc4"), looks := false }, kinds := [], alts := [], laidByText := true, laidKinds := [.data, .pinned], laidTests := true, laidLooks := .later }
def RoundTwiceUptoCardSaid : Prop := Claim7.holds Tryd.pinned (.plain (OpenSpec.upto roundTwiceSpec)) roundTwiceUptoCard

/-- THE SECOND FORM's CARD OF 'florinlaw03.RoundSigns'. -/
def roundSignsUptoCard : Claim7 := { stood := { row := roundSignsUptoRow, standIns := [], harness := (true, "1171046edadb17c077e4da3e5ff8de7e615ce416fadb93d587cadbcdb7396bc4"), looks := false }, kinds := [], alts := [], laidByText := true, laidKinds := [.data, .pinned], laidTests := true, laidLooks := .later }
def RoundSignsUptoCardSaid : Prop := Claim7.holds Tryd.pinned (.plain (OpenSpec.upto roundSignsSpec)) roundSignsUptoCard

/-- THE SECOND FORM's CARD OF 'florinlaw03.RoundBounds'. -/
def roundBoundsUptoCard : Claim7 := { stood := { row := roundBoundsUptoRow, standIns := [], harness := (true, "1171046edadb17c077e4da3e5ff8de7e615ce416fadb93d587cadbcdb7396bc4"), looks := false }, kinds := [], alts := [], laidByText := true, laidKinds := [.data, .pinned], laidTests := true, laidLooks := .later }
def RoundBoundsUptoCardSaid : Prop := Claim7.holds Tryd.pinned (.plain (OpenSpec.upto roundBoundsSpec)) roundBoundsUptoCard

/-- THE SECOND FORM's CARD OF 'florinlaw03.RoundAt'. -/
def roundAtUptoCard : Claim7 := { stood := { row := roundAtUptoRow, standIns := [], harness := (true, "1171046edadb17c077e4da3e5ff8de7e615ce416fadb93d587cadbcdb7396bc4"), looks := false }, kinds := [], alts := [], laidByText := true, laidKinds := [.data, .pinned], laidTests := true, laidLooks := .later }
def RoundAtUptoCardSaid : Prop := Claim7.holds Tryd.pinned (.plain (OpenSpec.upto roundAtSpec)) roundAtUptoCard

/-- THE SECOND FORM's CARD OF 'florinlaw03.RoundSig'. -/
def roundSigUptoCard : Claim7 := { stood := { row := roundSigUptoRow, standIns := [], harness := (true, "1171046edadb17c077e4da3e5ff8de7e615ce416fadb93d587cadbcdb7396bc4"), looks := false }, kinds := [], alts := [], laidByText := true, laidKinds := [.data, .pinned], laidTests := true, laidLooks := .later }
def RoundSigUptoCardSaid : Prop := Claim7.holds Tryd.pinned (.plain (OpenSpec.upto roundSigSpec)) roundSigUptoCard

/-- THE SECOND FORM's CARD OF 'florinlaw03.RoundAgain'. -/
def roundAgainUptoCard : Claim7 := { stood := { row := roundAgainUptoRow, standIns := [], harness := (true, "1171046edadb17c077e4da3e5ff8de7e615ce416fadb93d587cadbcdb7396bc4"), looks := false }, kinds := [], alts := [], laidByText := true, laidKinds := [.data, .pinned], laidTests := true, laidLooks := .later }
def RoundAgainUptoCardSaid : Prop := Claim7.holds Tryd.pinned (.plain (OpenSpec.upto roundAgainSpec)) roundAgainUptoCard

/-- THE SECOND FORM's CARD OF 'florinlaw03.RoundStep'. -/
def roundStepUptoCard : Claim7 := { stood := { row := roundStepUptoRow, standIns := [], harness := (true, "1171046edadb17c077e4da3e5ff8de7e615ce416fadb93d587cadbcdb7396bc4"), looks := false }, kinds := [], alts := [], laidByText := true, laidKinds := [.data, .pinned], laidTests := true, laidLooks := .later }
def RoundStepUptoCardSaid : Prop := Claim7.holds Tryd.pinned (.plain (OpenSpec.upto roundStepSpec)) roundStepUptoCard
end Rows
end Go.Proofs.YtoegmienlhgjnaaDoor
