/-
  DERIVED. GIVEN WITH THE SEED: THE CARDS: each row of YtfggjdkccdkogaaGreatDoorRows.lean that lists a variable, with what it lists TIED to the program's text (the seventh form; the later family's looks); each row that meets fmt, with fmt's text TOLD by the authors' own Lean function (tested against real Go, not proved from fmt's source: count such statements apart). THE CARD IS WHAT COUNTS. Prove the row's statement (the work); the ties are given (YtfggjdkccdkogaaGreatDoorTie.lean); close each card by the builder's one call (the guide's Derived/Test/ToyasCard.lean, 'card_holds'). Laid BY PROGRAM, IN A SANDBOX (cutbox-door.mjs). By AI agents, Wed Nov 11 2026. No macro, syntax, notation, axiom, sorry.
-/
import Derived.Test.YtfggjdkccdkogaaGreatDoorRows
import GoSem.ClaimSeven
namespace Go.Proofs.YtfggjdkccdkogaaGreatDoor
namespace Rows

/-- THE TIED CARD OF 'cracknellaw22.SnapUps'. -/
def snapUpsCard : Claim7 := { stood := { row := snapUpsRow, standIns := [], harness := (true, "20e9b9fa62ce5f25cce577e6419377a401077d7d2360366df5d8aa5476008a49"), looks := true }, kinds := [], alts := [], laidByText := true, laidKinds := [.data, .data, .data, .data, .sentinel, .sentinel, .pinned], laidTests := true, laidLooks := .later }
def SnapUpsCardSaid : Prop := Claim7.holds Tryz.pinned (.plain (OpenSpec.ofChange snapUpsSpec)) snapUpsCard

/-- THE TIED CARD OF 'cracknellaw22.SnapWrites'. -/
def snapWritesCard : Claim7 := { stood := { row := snapWritesRow, standIns := [], harness := (true, "20e9b9fa62ce5f25cce577e6419377a401077d7d2360366df5d8aa5476008a49"), looks := true }, kinds := [], alts := [], laidByText := true, laidKinds := [.data, .data, .data, .data, .sentinel, .sentinel, .pinned], laidTests := true, laidLooks := .later }
def SnapWritesCardSaid : Prop := Claim7.holds Tryz.pinned (.plain (OpenSpec.ofChange snapWritesSpec)) snapWritesCard

/-- THE TIED CARD OF 'cracknellaw22.SnapReads'. -/
def snapReadsCard : Claim7 := { stood := { row := snapReadsRow, standIns := [], harness := (true, "20e9b9fa62ce5f25cce577e6419377a401077d7d2360366df5d8aa5476008a49"), looks := true }, kinds := [], alts := [], laidByText := true, laidKinds := [.data, .data, .data, .data, .sentinel, .sentinel, .pinned], laidTests := true, laidLooks := .later }
def SnapReadsCardSaid : Prop := Claim7.holds Tryz.pinned (.plain (OpenSpec.ofChange snapReadsSpec)) snapReadsCard

/-- THE TIED CARD OF 'cracknellaw22.SnapSums'. -/
def snapSumsCard : Claim7 := { stood := { row := snapSumsRow, standIns := [], harness := (true, "20e9b9fa62ce5f25cce577e6419377a401077d7d2360366df5d8aa5476008a49"), looks := true }, kinds := [], alts := [], laidByText := true, laidKinds := [.data, .data, .data, .data, .sentinel, .sentinel, .pinned], laidTests := true, laidLooks := .later }
def SnapSumsCardSaid : Prop := Claim7.holds Tryz.pinned (.plain (OpenSpec.ofChange snapSumsSpec)) snapSumsCard

/-- THE TIED CARD OF 'cracknellaw22.SnapBack'. -/
def snapBackCard : Claim7 := { stood := { row := snapBackRow, standIns := [], harness := (true, "20e9b9fa62ce5f25cce577e6419377a401077d7d2360366df5d8aa5476008a49"), looks := true }, kinds := [], alts := [], laidByText := true, laidKinds := [.data, .data, .data, .data, .sentinel, .sentinel, .pinned], laidTests := true, laidLooks := .later }
def SnapBackCardSaid : Prop := Claim7.holds Tryz.pinned (.plain (OpenSpec.ofChange snapBackSpec)) snapBackCard

/-- THE TIED CARD OF 'cracknellaw22.SnapAgain'. -/
def snapAgainCard : Claim7 := { stood := { row := snapAgainRow, standIns := [], harness := (true, "20e9b9fa62ce5f25cce577e6419377a401077d7d2360366df5d8aa5476008a49"), looks := true }, kinds := [], alts := [], laidByText := true, laidKinds := [.data, .data, .data, .data, .sentinel, .sentinel, .pinned], laidTests := true, laidLooks := .later }
def SnapAgainCardSaid : Prop := Claim7.holds Tryz.pinned (.plain (OpenSpec.ofChange snapAgainSpec)) snapAgainCard

/-- THE TIED CARD OF 'cracknellaw22.SnapBursts'. -/
def snapBurstsCard : Claim7 := { stood := { row := snapBurstsRow, standIns := [], harness := (true, "20e9b9fa62ce5f25cce577e6419377a401077d7d2360366df5d8aa5476008a49"), looks := true }, kinds := [], alts := [], laidByText := true, laidKinds := [.data, .data, .data, .data, .sentinel, .sentinel, .pinned], laidTests := true, laidLooks := .later }
def SnapBurstsCardSaid : Prop := Claim7.holds Tryz.pinned (.plain (OpenSpec.ofChange snapBurstsSpec)) snapBurstsCard

/-- THE SECOND FORM's CARD OF 'cracknellaw22.SnapUps'. -/
def snapUpsUptoCard : Claim7 := { stood := { row := snapUpsUptoRow, standIns := [], harness := (true, "20e9b9fa62ce5f25cce577e6419377a401077d7d2360366df5d8aa5476008a49"), looks := true }, kinds := [], alts := [], laidByText := true, laidKinds := [.data, .data, .data, .data, .sentinel, .sentinel, .pinned], laidTests := true, laidLooks := .later }
def SnapUpsUptoCardSaid : Prop := Claim7.holds Tryz.pinned (.plain (OpenSpec.upto snapUpsSpec)) snapUpsUptoCard

/-- THE SECOND FORM's CARD OF 'cracknellaw22.SnapWrites'. -/
def snapWritesUptoCard : Claim7 := { stood := { row := snapWritesUptoRow, standIns := [], harness := (true, "20e9b9fa62ce5f25cce577e6419377a401077d7d2360366df5d8aa5476008a49"), looks := true }, kinds := [], alts := [], laidByText := true, laidKinds := [.data, .data, .data, .data, .sentinel, .sentinel, .pinned], laidTests := true, laidLooks := .later }
def SnapWritesUptoCardSaid : Prop := Claim7.holds Tryz.pinned (.plain (OpenSpec.upto snapWritesSpec)) snapWritesUptoCard

/-- THE SECOND FORM's CARD OF 'cracknellaw22.SnapReads'. -/
def snapReadsUptoCard : Claim7 := { stood := { row := snapReadsUptoRow, standIns := [], harness := (true, "20e9b9fa62ce5f25cce577e6419377a401077d7d2360366df5d8aa5476008a49"), looks := true }, kinds := [], alts := [], laidByText := true, laidKinds := [.data, .data, .data, .data, .sentinel, .sentinel, .pinned], laidTests := true, laidLooks := .later }
def SnapReadsUptoCardSaid : Prop := Claim7.holds Tryz.pinned (.plain (OpenSpec.upto snapReadsSpec)) snapReadsUptoCard

/-- THE SECOND FORM's CARD OF 'cracknellaw22.SnapSums'. -/
def snapSumsUptoCard : Claim7 := { stood := { row := snapSumsUptoRow, standIns := [], harness := (true, "20e9b9fa62ce5f25cce577e6419377a401077d7d2360366df5d8aa5476008a49"), looks := true }, kinds := [], alts := [], laidByText := true, laidKinds := [.data, .data, .data, .data, .sentinel, .sentinel, .pinned], laidTests := true, laidLooks := .later }
def SnapSumsUptoCardSaid : Prop := Claim7.holds Tryz.pinned (.plain (OpenSpec.upto snapSumsSpec)) snapSumsUptoCard

/-- THE SECOND FORM's CARD OF 'cracknellaw22.SnapBack'. -/
def snapBackUptoCard : Claim7 := { stood := { row := snapBackUptoRow, standIns := [], harness := (true, "20e9b9fa62ce5f25cce577e6419377a401077d7d2360366df5d8aa5476008a49"), looks := true }, kinds := [], alts := [], laidByText := true, laidKinds := [.data, .data, .data, .data, .sentinel, .sentinel, .pinned], laidTests := true, laidLooks := .later }
def SnapBackUptoCardSaid : Prop := Claim7.holds Tryz.pinned (.plain (OpenSpec.upto snapBackSpec)) snapBackUptoCard

/-- THE SECOND FORM's CARD OF 'cracknellaw22.SnapAgain'. -/
def snapAgainUptoCard : Claim7 := { stood := { row := snapAgainUptoRow, standIns := [], harness := (true, "20e9b9fa62ce5f25cce577e6419377a401077d7d2360366df5d8aa5476008a49"), looks := true }, kinds := [], alts := [], laidByText := true, laidKinds := [.data, .data, .data, .data, .sentinel, .sentinel, .pinned], laidTests := true, laidLooks := .later }
def SnapAgainUptoCardSaid : Prop := Claim7.holds Tryz.pinned (.plain (OpenSpec.upto snapAgainSpec)) snapAgainUptoCard

/-- THE SECOND FORM's CARD OF 'cracknellaw22.SnapBursts'. -/
def snapBurstsUptoCard : Claim7 := { stood := { row := snapBurstsUptoRow, standIns := [], harness := (true, "20e9b9fa62ce5f25cce577e6419377a401077d7d2360366df5d8aa5476008a49"), looks := true }, kinds := [], alts := [], laidByText := true, laidKinds := [.data, .data, .data, .data, .sentinel, .sentinel, .pinned], laidTests := true, laidLooks := .later }
def SnapBurstsUptoCardSaid : Prop := Claim7.holds Tryz.pinned (.plain (OpenSpec.upto snapBurstsSpec)) snapBurstsUptoCard
end Rows
end Go.Proofs.YtfggjdkccdkogaaGreatDoor
