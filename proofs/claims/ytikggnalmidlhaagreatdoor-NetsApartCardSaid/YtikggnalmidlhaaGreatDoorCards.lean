/-
  DERIVED. GIVEN WITH THE SEED: THE CARDS: each row of YtikggnalmidlhaaGreatDoorRows.lean that lists a variable, with what it lists TIED to the program's text (the seventh form; the later family's looks); each row that meets fmt, with fmt's text TOLD by the authors' own Lean function (tested against real Go, not proved from fmt's source: count such statements apart). THE CARD IS WHAT COUNTS. Prove the row's statement (the work); the ties are given (YtikggnalmidlhaaGreatDoorTie.lean); close each card by the builder's one call (the guide's Derived/Test/ToyasCard.lean, 'card_holds'). Laid BY PROGRAM, IN A SANDBOX (cutbox-door.mjs). By AI agents, Wed Nov 11 2026. No macro, syntax, notation, axiom, sorry.
-/
import Derived.Test.YtikggnalmidlhaaGreatDoorRows
import GoSem.ClaimSeven
namespace Go.Proofs.YtikggnalmidlhaaGreatDoor
namespace Rows

/-- THE TIED CARD OF 'cracknellaw19.NetsWrites'. -/
def netsWritesCard : Claim7 := { stood := { row := netsWritesRow, standIns := [], harness := (true, "93b370a80adaabad3a4a0bb5fd12a122e4b74b7278b738834904ecbbaf5e259b"), looks := true }, kinds := [], alts := [], laidByText := true, laidKinds := [.data, .data, .data, .data, .sentinel, .sentinel, .pinned], laidTests := true, laidLooks := .later }
def NetsWritesCardSaid : Prop := Claim7.holds Tryz.pinned (.plain (OpenSpec.ofChange netsWritesSpec)) netsWritesCard

/-- THE TIED CARD OF 'cracknellaw19.NetsReads'. -/
def netsReadsCard : Claim7 := { stood := { row := netsReadsRow, standIns := [], harness := (true, "93b370a80adaabad3a4a0bb5fd12a122e4b74b7278b738834904ecbbaf5e259b"), looks := true }, kinds := [], alts := [], laidByText := true, laidKinds := [.data, .data, .data, .data, .sentinel, .sentinel, .pinned], laidTests := true, laidLooks := .later }
def NetsReadsCardSaid : Prop := Claim7.holds Tryz.pinned (.plain (OpenSpec.ofChange netsReadsSpec)) netsReadsCard

/-- THE TIED CARD OF 'cracknellaw19.NetsBack'. -/
def netsBackCard : Claim7 := { stood := { row := netsBackRow, standIns := [], harness := (true, "93b370a80adaabad3a4a0bb5fd12a122e4b74b7278b738834904ecbbaf5e259b"), looks := true }, kinds := [], alts := [], laidByText := true, laidKinds := [.data, .data, .data, .data, .sentinel, .sentinel, .pinned], laidTests := true, laidLooks := .later }
def NetsBackCardSaid : Prop := Claim7.holds Tryz.pinned (.plain (OpenSpec.ofChange netsBackSpec)) netsBackCard

/-- THE TIED CARD OF 'cracknellaw19.NetsNotes'. -/
def netsNotesCard : Claim7 := { stood := { row := netsNotesRow, standIns := [], harness := (true, "93b370a80adaabad3a4a0bb5fd12a122e4b74b7278b738834904ecbbaf5e259b"), looks := true }, kinds := [], alts := [], laidByText := true, laidKinds := [.data, .data, .data, .data, .sentinel, .sentinel, .pinned], laidTests := true, laidLooks := .later }
def NetsNotesCardSaid : Prop := Claim7.holds Tryz.pinned (.plain (OpenSpec.ofChange netsNotesSpec)) netsNotesCard

/-- THE TIED CARD OF 'cracknellaw19.NetsEnds'. -/
def netsEndsCard : Claim7 := { stood := { row := netsEndsRow, standIns := [], harness := (true, "93b370a80adaabad3a4a0bb5fd12a122e4b74b7278b738834904ecbbaf5e259b"), looks := true }, kinds := [], alts := [], laidByText := true, laidKinds := [.data, .data, .data, .data, .sentinel, .sentinel, .pinned], laidTests := true, laidLooks := .later }
def NetsEndsCardSaid : Prop := Claim7.holds Tryz.pinned (.plain (OpenSpec.ofChange netsEndsSpec)) netsEndsCard

/-- THE TIED CARD OF 'cracknellaw19.NetsApart'. -/
def netsApartCard : Claim7 := { stood := { row := netsApartRow, standIns := [], harness := (true, "93b370a80adaabad3a4a0bb5fd12a122e4b74b7278b738834904ecbbaf5e259b"), looks := true }, kinds := [], alts := [], laidByText := true, laidKinds := [.data, .data, .data, .data, .sentinel, .sentinel, .pinned], laidTests := true, laidLooks := .later }
def NetsApartCardSaid : Prop := Claim7.holds Tryz.pinned (.plain (OpenSpec.ofChange netsApartSpec)) netsApartCard

/-- THE SECOND FORM's CARD OF 'cracknellaw19.NetsWrites'. -/
def netsWritesUptoCard : Claim7 := { stood := { row := netsWritesUptoRow, standIns := [], harness := (true, "93b370a80adaabad3a4a0bb5fd12a122e4b74b7278b738834904ecbbaf5e259b"), looks := true }, kinds := [], alts := [], laidByText := true, laidKinds := [.data, .data, .data, .data, .sentinel, .sentinel, .pinned], laidTests := true, laidLooks := .later }
def NetsWritesUptoCardSaid : Prop := Claim7.holds Tryz.pinned (.plain (OpenSpec.upto netsWritesSpec)) netsWritesUptoCard

/-- THE SECOND FORM's CARD OF 'cracknellaw19.NetsReads'. -/
def netsReadsUptoCard : Claim7 := { stood := { row := netsReadsUptoRow, standIns := [], harness := (true, "93b370a80adaabad3a4a0bb5fd12a122e4b74b7278b738834904ecbbaf5e259b"), looks := true }, kinds := [], alts := [], laidByText := true, laidKinds := [.data, .data, .data, .data, .sentinel, .sentinel, .pinned], laidTests := true, laidLooks := .later }
def NetsReadsUptoCardSaid : Prop := Claim7.holds Tryz.pinned (.plain (OpenSpec.upto netsReadsSpec)) netsReadsUptoCard

/-- THE SECOND FORM's CARD OF 'cracknellaw19.NetsBack'. -/
def netsBackUptoCard : Claim7 := { stood := { row := netsBackUptoRow, standIns := [], harness := (true, "93b370a80adaabad3a4a0bb5fd12a122e4b74b7278b738834904ecbbaf5e259b"), looks := true }, kinds := [], alts := [], laidByText := true, laidKinds := [.data, .data, .data, .data, .sentinel, .sentinel, .pinned], laidTests := true, laidLooks := .later }
def NetsBackUptoCardSaid : Prop := Claim7.holds Tryz.pinned (.plain (OpenSpec.upto netsBackSpec)) netsBackUptoCard

/-- THE SECOND FORM's CARD OF 'cracknellaw19.NetsNotes'. -/
def netsNotesUptoCard : Claim7 := { stood := { row := netsNotesUptoRow, standIns := [], harness := (true, "93b370a80adaabad3a4a0bb5fd12a122e4b74b7278b738834904ecbbaf5e259b"), looks := true }, kinds := [], alts := [], laidByText := true, laidKinds := [.data, .data, .data, .data, .sentinel, .sentinel, .pinned], laidTests := true, laidLooks := .later }
def NetsNotesUptoCardSaid : Prop := Claim7.holds Tryz.pinned (.plain (OpenSpec.upto netsNotesSpec)) netsNotesUptoCard

/-- THE SECOND FORM's CARD OF 'cracknellaw19.NetsEnds'. -/
def netsEndsUptoCard : Claim7 := { stood := { row := netsEndsUptoRow, standIns := [], harness := (true, "93b370a80adaabad3a4a0bb5fd12a122e4b74b7278b738834904ecbbaf5e259b"), looks := true }, kinds := [], alts := [], laidByText := true, laidKinds := [.data, .data, .data, .data, .sentinel, .sentinel, .pinned], laidTests := true, laidLooks := .later }
def NetsEndsUptoCardSaid : Prop := Claim7.holds Tryz.pinned (.plain (OpenSpec.upto netsEndsSpec)) netsEndsUptoCard

/-- THE SECOND FORM's CARD OF 'cracknellaw19.NetsApart'. -/
def netsApartUptoCard : Claim7 := { stood := { row := netsApartUptoRow, standIns := [], harness := (true, "93b370a80adaabad3a4a0bb5fd12a122e4b74b7278b738834904ecbbaf5e259b"), looks := true }, kinds := [], alts := [], laidByText := true, laidKinds := [.data, .data, .data, .data, .sentinel, .sentinel, .pinned], laidTests := true, laidLooks := .later }
def NetsApartUptoCardSaid : Prop := Claim7.holds Tryz.pinned (.plain (OpenSpec.upto netsApartSpec)) netsApartUptoCard
end Rows
end Go.Proofs.YtikggnalmidlhaaGreatDoor
