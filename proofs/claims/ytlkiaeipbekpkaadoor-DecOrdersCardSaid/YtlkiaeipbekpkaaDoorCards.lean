/-
  DERIVED. GIVEN WITH THE SEED: THE CARDS: each row of YtlkiaeipbekpkaaDoorRows.lean that lists a variable, with what it lists TIED to the program's text (the seventh form; the later family's looks); each row that meets fmt, with fmt's text TOLD by the authors' own Lean function (tested against real Go, not proved from fmt's source: count such statements apart). THE CARD IS WHAT COUNTS. Prove the row's statement (the work); the ties are given (YtlkiaeipbekpkaaDoorTie.lean); close each card by the builder's one call (the guide's Derived/Test/ToyasCard.lean, 'card_holds'). Laid BY PROGRAM, IN A SANDBOX (cutbox-door.mjs). By AI agents, Wed Nov 11 2026. No macro, syntax, notation, axiom, sorry.
-/
import Derived.Test.YtlkiaeipbekpkaaDoorRows
import GoSem.ClaimSeven
namespace Go.Proofs.YtlkiaeipbekpkaaDoor
namespace Rows

/-- THE TIED CARD OF 'florinlaw02.DecReads'. -/
def decReadsCard : Claim7 := { stood := { row := decReadsRow, standIns := [], harness := (true, "ba527f9d43c411ae93c673961607b094a77507acba8335fbf03757c1c07f7c12"), looks := false }, kinds := [], alts := [], laidByText := true, laidKinds := [.data, .data, .data, .data, .pinned], laidTests := true, laidLooks := .later }
def DecReadsCardSaid : Prop := Claim7.holds Tryd.pinned (.plain (OpenSpec.ofChange decReadsSpec)) decReadsCard

/-- THE TIED CARD OF 'florinlaw02.DecPlaces'. -/
def decPlacesCard : Claim7 := { stood := { row := decPlacesRow, standIns := [], harness := (true, "ba527f9d43c411ae93c673961607b094a77507acba8335fbf03757c1c07f7c12"), looks := false }, kinds := [], alts := [], laidByText := true, laidKinds := [.data, .data, .data, .data, .pinned], laidTests := true, laidLooks := .later }
def DecPlacesCardSaid : Prop := Claim7.holds Tryd.pinned (.plain (OpenSpec.ofChange decPlacesSpec)) decPlacesCard

/-- THE TIED CARD OF 'florinlaw02.DecScales'. -/
def decScalesCard : Claim7 := { stood := { row := decScalesRow, standIns := [], harness := (true, "ba527f9d43c411ae93c673961607b094a77507acba8335fbf03757c1c07f7c12"), looks := false }, kinds := [], alts := [], laidByText := true, laidKinds := [.data, .data, .data, .data, .pinned], laidTests := true, laidLooks := .later }
def DecScalesCardSaid : Prop := Claim7.holds Tryd.pinned (.plain (OpenSpec.ofChange decScalesSpec)) decScalesCard

/-- THE TIED CARD OF 'florinlaw02.DecParses'. -/
def decParsesCard : Claim7 := { stood := { row := decParsesRow, standIns := [], harness := (true, "ba527f9d43c411ae93c673961607b094a77507acba8335fbf03757c1c07f7c12"), looks := false }, kinds := [], alts := [], laidByText := true, laidKinds := [.data, .data, .data, .data, .pinned], laidTests := true, laidLooks := .later }
def DecParsesCardSaid : Prop := Claim7.holds Tryd.pinned (.plain (OpenSpec.ofChange decParsesSpec)) decParsesCard

/-- THE TIED CARD OF 'florinlaw02.DecTexts'. -/
def decTextsCard : Claim7 := { stood := { row := decTextsRow, standIns := [], harness := (true, "ba527f9d43c411ae93c673961607b094a77507acba8335fbf03757c1c07f7c12"), looks := false }, kinds := [], alts := [], laidByText := true, laidKinds := [.data, .data, .data, .data, .pinned], laidTests := true, laidLooks := .later }
def DecTextsCardSaid : Prop := Claim7.holds Tryd.pinned (.plain (OpenSpec.ofChange decTextsSpec)) decTextsCard

/-- THE TIED CARD OF 'florinlaw02.DecForms'. -/
def decFormsCard : Claim7 := { stood := { row := decFormsRow, standIns := [], harness := (true, "ba527f9d43c411ae93c673961607b094a77507acba8335fbf03757c1c07f7c12"), looks := false }, kinds := [], alts := [], laidByText := true, laidKinds := [.data, .data, .data, .data, .pinned], laidTests := true, laidLooks := .later }
def DecFormsCardSaid : Prop := Claim7.holds Tryd.pinned (.plain (OpenSpec.ofChange decFormsSpec)) decFormsCard

/-- THE TIED CARD OF 'florinlaw02.DecAdds'. -/
def decAddsCard : Claim7 := { stood := { row := decAddsRow, standIns := [], harness := (true, "ba527f9d43c411ae93c673961607b094a77507acba8335fbf03757c1c07f7c12"), looks := false }, kinds := [], alts := [], laidByText := true, laidKinds := [.data, .data, .data, .data, .pinned], laidTests := true, laidLooks := .later }
def DecAddsCardSaid : Prop := Claim7.holds Tryd.pinned (.plain (OpenSpec.ofChange decAddsSpec)) decAddsCard

/-- THE TIED CARD OF 'florinlaw02.DecOrders'. -/
def decOrdersCard : Claim7 := { stood := { row := decOrdersRow, standIns := [], harness := (true, "ba527f9d43c411ae93c673961607b094a77507acba8335fbf03757c1c07f7c12"), looks := false }, kinds := [], alts := [], laidByText := true, laidKinds := [.data, .data, .data, .data, .pinned], laidTests := true, laidLooks := .later }
def DecOrdersCardSaid : Prop := Claim7.holds Tryd.pinned (.plain (OpenSpec.ofChange decOrdersSpec)) decOrdersCard

/-- THE SECOND FORM's CARD OF 'florinlaw02.DecReads'. -/
def decReadsUptoCard : Claim7 := { stood := { row := decReadsUptoRow, standIns := [], harness := (true, "ba527f9d43c411ae93c673961607b094a77507acba8335fbf03757c1c07f7c12"), looks := false }, kinds := [], alts := [], laidByText := true, laidKinds := [.data, .data, .data, .data, .pinned], laidTests := true, laidLooks := .later }
def DecReadsUptoCardSaid : Prop := Claim7.holds Tryd.pinned (.plain (OpenSpec.upto decReadsSpec)) decReadsUptoCard

/-- THE SECOND FORM's CARD OF 'florinlaw02.DecPlaces'. -/
def decPlacesUptoCard : Claim7 := { stood := { row := decPlacesUptoRow, standIns := [], harness := (true, "ba527f9d43c411ae93c673961607b094a77507acba8335fbf03757c1c07f7c12"), looks := false }, kinds := [], alts := [], laidByText := true, laidKinds := [.data, .data, .data, .data, .pinned], laidTests := true, laidLooks := .later }
def DecPlacesUptoCardSaid : Prop := Claim7.holds Tryd.pinned (.plain (OpenSpec.upto decPlacesSpec)) decPlacesUptoCard

/-- THE SECOND FORM's CARD OF 'florinlaw02.DecScales'. -/
def decScalesUptoCard : Claim7 := { stood := { row := decScalesUptoRow, standIns := [], harness := (true, "ba527f9d43c411ae93c673961607b094a77507acba8335fbf03757c1c07f7c12"), looks := false }, kinds := [], alts := [], laidByText := true, laidKinds := [.data, .data, .data, .data, .pinned], laidTests := true, laidLooks := .later }
def DecScalesUptoCardSaid : Prop := Claim7.holds Tryd.pinned (.plain (OpenSpec.upto decScalesSpec)) decScalesUptoCard

/-- THE SECOND FORM's CARD OF 'florinlaw02.DecParses'. -/
def decParsesUptoCard : Claim7 := { stood := { row := decParsesUptoRow, standIns := [], harness := (true, "ba527f9d43c411ae93c673961607b094a77507acba8335fbf03757c1c07f7c12"), looks := false }, kinds := [], alts := [], laidByText := true, laidKinds := [.data, .data, .data, .data, .pinned], laidTests := true, laidLooks := .later }
def DecParsesUptoCardSaid : Prop := Claim7.holds Tryd.pinned (.plain (OpenSpec.upto decParsesSpec)) decParsesUptoCard

/-- THE SECOND FORM's CARD OF 'florinlaw02.DecTexts'. -/
def decTextsUptoCard : Claim7 := { stood := { row := decTextsUptoRow, standIns := [], harness := (true, "ba527f9d43c411ae93c673961607b094a77507acba8335fbf03757c1c07f7c12"), looks := false }, kinds := [], alts := [], laidByText := true, laidKinds := [.data, .data, .data, .data, .pinned], laidTests := true, laidLooks := .later }
def DecTextsUptoCardSaid : Prop := Claim7.holds Tryd.pinned (.plain (OpenSpec.upto decTextsSpec)) decTextsUptoCard

/-- THE SECOND FORM's CARD OF 'florinlaw02.DecForms'. -/
def decFormsUptoCard : Claim7 := { stood := { row := decFormsUptoRow, standIns := [], harness := (true, "ba527f9d43c411ae93c673961607b094a77507acba8335fbf03757c1c07f7c12"), looks := false }, kinds := [], alts := [], laidByText := true, laidKinds := [.data, .data, .data, .data, .pinned], laidTests := true, laidLooks := .later }
def DecFormsUptoCardSaid : Prop := Claim7.holds Tryd.pinned (.plain (OpenSpec.upto decFormsSpec)) decFormsUptoCard

/-- THE SECOND FORM's CARD OF 'florinlaw02.DecAdds'. -/
def decAddsUptoCard : Claim7 := { stood := { row := decAddsUptoRow, standIns := [], harness := (true, "ba527f9d43c411ae93c673961607b094a77507acba8335fbf03757c1c07f7c12"), looks := false }, kinds := [], alts := [], laidByText := true, laidKinds := [.data, .data, .data, .data, .pinned], laidTests := true, laidLooks := .later }
def DecAddsUptoCardSaid : Prop := Claim7.holds Tryd.pinned (.plain (OpenSpec.upto decAddsSpec)) decAddsUptoCard

/-- THE SECOND FORM's CARD OF 'florinlaw02.DecOrders'. -/
def decOrdersUptoCard : Claim7 := { stood := { row := decOrdersUptoRow, standIns := [], harness := (true, "ba527f9d43c411ae93c673961607b094a77507acba8335fbf03757c1c07f7c12"), looks := false }, kinds := [], alts := [], laidByText := true, laidKinds := [.data, .data, .data, .data, .pinned], laidTests := true, laidLooks := .later }
def DecOrdersUptoCardSaid : Prop := Claim7.holds Tryd.pinned (.plain (OpenSpec.upto decOrdersSpec)) decOrdersUptoCard
end Rows
end Go.Proofs.YtlkiaeipbekpkaaDoor
