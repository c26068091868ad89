/-
  DERIVED. GIVEN WITH THE SEED: THE CARDS: each row of YtngjfibaaoaphaaDoorRows.lean that lists a variable, with what it lists TIED to the program's text (the seventh form; the later family's looks); each row that meets fmt, with fmt's text TOLD by the authors' own Lean function (tested against real Go, not proved from fmt's source: count such statements apart). THE CARD IS WHAT COUNTS. Prove the row's statement (the work); the ties are given (YtngjfibaaoaphaaDoorTie.lean); close each card by the builder's one call (the guide's Derived/Test/ToyasCard.lean, 'card_holds'). Laid BY PROGRAM, IN A SANDBOX (cutbox-door.mjs). By AI agents, Wed Nov 11 2026. No macro, syntax, notation, axiom, sorry.
-/
import Derived.Test.YtngjfibaaoaphaaDoorRows
import GoSem.ClaimSeven
namespace Go.Proofs.YtngjfibaaoaphaaDoor
namespace Rows

/-- THE TIED CARD OF 'cracknellaw02.DecPrints'. -/
def decPrintsCard : Claim7 := { stood := { row := decPrintsRow, standIns := [], harness := (true, "180adbe590d82228606a96226a40360ff0bf31c182306b597f1b0e1e801d28cf"), looks := true }, kinds := [], alts := [], laidByText := true, laidKinds := [.data, .data, .data, .sentinel, .sentinel], laidTests := true, laidLooks := .later }
def DecPrintsCardSaid : Prop := Claim7.holds Tryd.pinned (.plain (OpenSpec.ofChange decPrintsSpec)) decPrintsCard

/-- THE TIED CARD OF 'cracknellaw02.DecReads'. -/
def decReadsCard : Claim7 := { stood := { row := decReadsRow, standIns := [], harness := (true, "180adbe590d82228606a96226a40360ff0bf31c182306b597f1b0e1e801d28cf"), looks := true }, kinds := [], alts := [], laidByText := true, laidKinds := [.data, .data, .data, .sentinel, .sentinel], laidTests := true, laidLooks := .later }
def DecReadsCardSaid : Prop := Claim7.holds Tryd.pinned (.plain (OpenSpec.ofChange decReadsSpec)) decReadsCard

/-- THE TIED CARD OF 'cracknellaw02.DecFixed'. -/
def decFixedCard : Claim7 := { stood := { row := decFixedRow, standIns := [], harness := (true, "180adbe590d82228606a96226a40360ff0bf31c182306b597f1b0e1e801d28cf"), looks := true }, kinds := [], alts := [], laidByText := true, laidKinds := [.data, .data, .data, .sentinel, .sentinel], laidTests := true, laidLooks := .later }
def DecFixedCardSaid : Prop := Claim7.holds Tryd.pinned (.plain (OpenSpec.ofChange decFixedSpec)) decFixedCard

/-- THE TIED CARD OF 'cracknellaw02.DecUnfixed'. -/
def decUnfixedCard : Claim7 := { stood := { row := decUnfixedRow, standIns := [], harness := (true, "180adbe590d82228606a96226a40360ff0bf31c182306b597f1b0e1e801d28cf"), looks := true }, kinds := [], alts := [], laidByText := true, laidKinds := [.data, .data, .data, .sentinel, .sentinel], laidTests := true, laidLooks := .later }
def DecUnfixedCardSaid : Prop := Claim7.holds Tryd.pinned (.plain (OpenSpec.ofChange decUnfixedSpec)) decUnfixedCard

/-- THE TIED CARD OF 'cracknellaw02.DecOrders'. -/
def decOrdersCard : Claim7 := { stood := { row := decOrdersRow, standIns := [], harness := (true, "180adbe590d82228606a96226a40360ff0bf31c182306b597f1b0e1e801d28cf"), looks := true }, kinds := [], alts := [], laidByText := true, laidKinds := [.data, .data, .data, .sentinel, .sentinel], laidTests := true, laidLooks := .later }
def DecOrdersCardSaid : Prop := Claim7.holds Tryd.pinned (.plain (OpenSpec.ofChange decOrdersSpec)) decOrdersCard

/-- THE TIED CARD OF 'cracknellaw02.DecJoins'. -/
def decJoinsCard : Claim7 := { stood := { row := decJoinsRow, standIns := [], harness := (true, "180adbe590d82228606a96226a40360ff0bf31c182306b597f1b0e1e801d28cf"), looks := true }, kinds := [], alts := [], laidByText := true, laidKinds := [.data, .data, .data, .sentinel, .sentinel], laidTests := true, laidLooks := .later }
def DecJoinsCardSaid : Prop := Claim7.holds Tryd.pinned (.plain (OpenSpec.ofChange decJoinsSpec)) decJoinsCard

/-- THE SECOND FORM's CARD OF 'cracknellaw02.DecPrints'. -/
def decPrintsUptoCard : Claim7 := { stood := { row := decPrintsUptoRow, standIns := [], harness := (true, "180adbe590d82228606a96226a40360ff0bf31c182306b597f1b0e1e801d28cf"), looks := true }, kinds := [], alts := [], laidByText := true, laidKinds := [.data, .data, .data, .sentinel, .sentinel], laidTests := true, laidLooks := .later }
def DecPrintsUptoCardSaid : Prop := Claim7.holds Tryd.pinned (.plain (OpenSpec.upto decPrintsSpec)) decPrintsUptoCard

/-- THE SECOND FORM's CARD OF 'cracknellaw02.DecReads'. -/
def decReadsUptoCard : Claim7 := { stood := { row := decReadsUptoRow, standIns := [], harness := (true, "180adbe590d82228606a96226a40360ff0bf31c182306b597f1b0e1e801d28cf"), looks := true }, kinds := [], alts := [], laidByText := true, laidKinds := [.data, .data, .data, .sentinel, .sentinel], laidTests := true, laidLooks := .later }
def DecReadsUptoCardSaid : Prop := Claim7.holds Tryd.pinned (.plain (OpenSpec.upto decReadsSpec)) decReadsUptoCard

/-- THE SECOND FORM's CARD OF 'cracknellaw02.DecFixed'. -/
def decFixedUptoCard : Claim7 := { stood := { row := decFixedUptoRow, standIns := [], harness := (true, "180adbe590d82228606a96226a40360ff0bf31c182306b597f1b0e1e801d28cf"), looks := true }, kinds := [], alts := [], laidByText := true, laidKinds := [.data, .data, .data, .sentinel, .sentinel], laidTests := true, laidLooks := .later }
def DecFixedUptoCardSaid : Prop := Claim7.holds Tryd.pinned (.plain (OpenSpec.upto decFixedSpec)) decFixedUptoCard

/-- THE SECOND FORM's CARD OF 'cracknellaw02.DecUnfixed'. -/
def decUnfixedUptoCard : Claim7 := { stood := { row := decUnfixedUptoRow, standIns := [], harness := (true, "180adbe590d82228606a96226a40360ff0bf31c182306b597f1b0e1e801d28cf"), looks := true }, kinds := [], alts := [], laidByText := true, laidKinds := [.data, .data, .data, .sentinel, .sentinel], laidTests := true, laidLooks := .later }
def DecUnfixedUptoCardSaid : Prop := Claim7.holds Tryd.pinned (.plain (OpenSpec.upto decUnfixedSpec)) decUnfixedUptoCard

/-- THE SECOND FORM's CARD OF 'cracknellaw02.DecOrders'. -/
def decOrdersUptoCard : Claim7 := { stood := { row := decOrdersUptoRow, standIns := [], harness := (true, "180adbe590d82228606a96226a40360ff0bf31c182306b597f1b0e1e801d28cf"), looks := true }, kinds := [], alts := [], laidByText := true, laidKinds := [.data, .data, .data, .sentinel, .sentinel], laidTests := true, laidLooks := .later }
def DecOrdersUptoCardSaid : Prop := Claim7.holds Tryd.pinned (.plain (OpenSpec.upto decOrdersSpec)) decOrdersUptoCard

/-- THE SECOND FORM's CARD OF 'cracknellaw02.DecJoins'. -/
def decJoinsUptoCard : Claim7 := { stood := { row := decJoinsUptoRow, standIns := [], harness := (true, "180adbe590d82228606a96226a40360ff0bf31c182306b597f1b0e1e801d28cf"), looks := true }, kinds := [], alts := [], laidByText := true, laidKinds := [.data, .data, .data, .sentinel, .sentinel], laidTests := true, laidLooks := .later }
def DecJoinsUptoCardSaid : Prop := Claim7.holds Tryd.pinned (.plain (OpenSpec.upto decJoinsSpec)) decJoinsUptoCard
end Rows
end Go.Proofs.YtngjfibaaoaphaaDoor
