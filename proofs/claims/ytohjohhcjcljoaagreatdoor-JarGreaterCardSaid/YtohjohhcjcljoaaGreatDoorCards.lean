/-
  DERIVED. GIVEN WITH THE SEED: THE CARDS: each row of YtohjohhcjcljoaaGreatDoorRows.lean that lists a variable, with what it lists TIED to the program's text (the seventh form; the later family's looks); each row that meets fmt, with fmt's text TOLD by the authors' own Lean function (tested against real Go, not proved from fmt's source: count such statements apart). THE CARD IS WHAT COUNTS. Prove the row's statement (the work); the ties are given (YtohjohhcjcljoaaGreatDoorTie.lean); close each card by the builder's one call (the guide's Derived/Test/ToyasCard.lean, 'card_holds'). Laid BY PROGRAM, IN A SANDBOX (cutbox-door.mjs). By AI agents, Wed Nov 11 2026. No macro, syntax, notation, axiom, sorry.
-/
import Derived.Test.YtohjohhcjcljoaaGreatDoorRows
import GoSem.ClaimSeven
namespace Go.Proofs.YtohjohhcjcljoaaGreatDoor
namespace Rows

/-- THE TIED CARD OF 'cracknellaw15.JarOf'. -/
def jarOfCard : Claim7 := { stood := { row := jarOfRow, standIns := [], harness := (true, "e3b2c9961bf8e69dced369db30900b4796c8afe89ac57e42045b678c56606e8f"), looks := true }, kinds := [], alts := [], laidByText := true, laidKinds := [.data, .data, .data, .data, .sentinel, .sentinel, .pinned], laidTests := true, laidLooks := .later }
def JarOfCardSaid : Prop := Claim7.holds Tryz.pinned (.plain (OpenSpec.ofChange jarOfSpec)) jarOfCard

/-- THE TIED CARD OF 'cracknellaw15.JarFinds'. -/
def jarFindsCard : Claim7 := { stood := { row := jarFindsRow, standIns := [], harness := (true, "e3b2c9961bf8e69dced369db30900b4796c8afe89ac57e42045b678c56606e8f"), looks := true }, kinds := [], alts := [], laidByText := true, laidKinds := [.data, .data, .data, .data, .sentinel, .sentinel, .pinned], laidTests := true, laidLooks := .later }
def JarFindsCardSaid : Prop := Claim7.holds Tryz.pinned (.plain (OpenSpec.ofChange jarFindsSpec)) jarFindsCard

/-- THE TIED CARD OF 'cracknellaw15.JarPuts'. -/
def jarPutsCard : Claim7 := { stood := { row := jarPutsRow, standIns := [], harness := (true, "e3b2c9961bf8e69dced369db30900b4796c8afe89ac57e42045b678c56606e8f"), looks := true }, kinds := [], alts := [], laidByText := true, laidKinds := [.data, .data, .data, .data, .sentinel, .sentinel, .pinned], laidTests := true, laidLooks := .later }
def JarPutsCardSaid : Prop := Claim7.holds Tryz.pinned (.plain (OpenSpec.ofChange jarPutsSpec)) jarPutsCard

/-- THE TIED CARD OF 'cracknellaw15.JarMerges'. -/
def jarMergesCard : Claim7 := { stood := { row := jarMergesRow, standIns := [], harness := (true, "e3b2c9961bf8e69dced369db30900b4796c8afe89ac57e42045b678c56606e8f"), looks := true }, kinds := [], alts := [], laidByText := true, laidKinds := [.data, .data, .data, .data, .sentinel, .sentinel, .pinned], laidTests := true, laidLooks := .later }
def JarMergesCardSaid : Prop := Claim7.holds Tryz.pinned (.plain (OpenSpec.ofChange jarMergesSpec)) jarMergesCard

/-- THE TIED CARD OF 'cracknellaw15.JarThree'. -/
def jarThreeCard : Claim7 := { stood := { row := jarThreeRow, standIns := [], harness := (true, "e3b2c9961bf8e69dced369db30900b4796c8afe89ac57e42045b678c56606e8f"), looks := true }, kinds := [], alts := [], laidByText := true, laidKinds := [.data, .data, .data, .data, .sentinel, .sentinel, .pinned], laidTests := true, laidLooks := .later }
def JarThreeCardSaid : Prop := Claim7.holds Tryz.pinned (.plain (OpenSpec.ofChange jarThreeSpec)) jarThreeCard

/-- THE TIED CARD OF 'cracknellaw15.JarOwn'. -/
def jarOwnCard : Claim7 := { stood := { row := jarOwnRow, standIns := [], harness := (true, "e3b2c9961bf8e69dced369db30900b4796c8afe89ac57e42045b678c56606e8f"), looks := true }, kinds := [], alts := [], laidByText := true, laidKinds := [.data, .data, .data, .data, .sentinel, .sentinel, .pinned], laidTests := true, laidLooks := .later }
def JarOwnCardSaid : Prop := Claim7.holds Tryz.pinned (.plain (OpenSpec.ofChange jarOwnSpec)) jarOwnCard

/-- THE TIED CARD OF 'cracknellaw15.JarGreater'. -/
def jarGreaterCard : Claim7 := { stood := { row := jarGreaterRow, standIns := [], harness := (true, "e3b2c9961bf8e69dced369db30900b4796c8afe89ac57e42045b678c56606e8f"), looks := true }, kinds := [], alts := [], laidByText := true, laidKinds := [.data, .data, .data, .data, .sentinel, .sentinel, .pinned], laidTests := true, laidLooks := .later }
def JarGreaterCardSaid : Prop := Claim7.holds Tryz.pinned (.plain (OpenSpec.ofChange jarGreaterSpec)) jarGreaterCard

/-- THE SECOND FORM's CARD OF 'cracknellaw15.JarOf'. -/
def jarOfUptoCard : Claim7 := { stood := { row := jarOfUptoRow, standIns := [], harness := (true, "e3b2c9961bf8e69dced369db30900b4796c8afe89ac57e42045b678c56606e8f"), looks := true }, kinds := [], alts := [], laidByText := true, laidKinds := [.data, .data, .data, .data, .sentinel, .sentinel, .pinned], laidTests := true, laidLooks := .later }
def JarOfUptoCardSaid : Prop := Claim7.holds Tryz.pinned (.plain (OpenSpec.upto jarOfSpec)) jarOfUptoCard

/-- THE SECOND FORM's CARD OF 'cracknellaw15.JarFinds'. -/
def jarFindsUptoCard : Claim7 := { stood := { row := jarFindsUptoRow, standIns := [], harness := (true, "e3b2c9961bf8e69dced369db30900b4796c8afe89ac57e42045b678c56606e8f"), looks := true }, kinds := [], alts := [], laidByText := true, laidKinds := [.data, .data, .data, .data, .sentinel, .sentinel, .pinned], laidTests := true, laidLooks := .later }
def JarFindsUptoCardSaid : Prop := Claim7.holds Tryz.pinned (.plain (OpenSpec.upto jarFindsSpec)) jarFindsUptoCard

/-- THE SECOND FORM's CARD OF 'cracknellaw15.JarPuts'. -/
def jarPutsUptoCard : Claim7 := { stood := { row := jarPutsUptoRow, standIns := [], harness := (true, "e3b2c9961bf8e69dced369db30900b4796c8afe89ac57e42045b678c56606e8f"), looks := true }, kinds := [], alts := [], laidByText := true, laidKinds := [.data, .data, .data, .data, .sentinel, .sentinel, .pinned], laidTests := true, laidLooks := .later }
def JarPutsUptoCardSaid : Prop := Claim7.holds Tryz.pinned (.plain (OpenSpec.upto jarPutsSpec)) jarPutsUptoCard

/-- THE SECOND FORM's CARD OF 'cracknellaw15.JarMerges'. -/
def jarMergesUptoCard : Claim7 := { stood := { row := jarMergesUptoRow, standIns := [], harness := (true, "e3b2c9961bf8e69dced369db30900b4796c8afe89ac57e42045b678c56606e8f"), looks := true }, kinds := [], alts := [], laidByText := true, laidKinds := [.data, .data, .data, .data, .sentinel, .sentinel, .pinned], laidTests := true, laidLooks := .later }
def JarMergesUptoCardSaid : Prop := Claim7.holds Tryz.pinned (.plain (OpenSpec.upto jarMergesSpec)) jarMergesUptoCard

/-- THE SECOND FORM's CARD OF 'cracknellaw15.JarThree'. -/
def jarThreeUptoCard : Claim7 := { stood := { row := jarThreeUptoRow, standIns := [], harness := (true, "e3b2c9961bf8e69dced369db30900b4796c8afe89ac57e42045b678c56606e8f"), looks := true }, kinds := [], alts := [], laidByText := true, laidKinds := [.data, .data, .data, .data, .sentinel, .sentinel, .pinned], laidTests := true, laidLooks := .later }
def JarThreeUptoCardSaid : Prop := Claim7.holds Tryz.pinned (.plain (OpenSpec.upto jarThreeSpec)) jarThreeUptoCard

/-- THE SECOND FORM's CARD OF 'cracknellaw15.JarOwn'. -/
def jarOwnUptoCard : Claim7 := { stood := { row := jarOwnUptoRow, standIns := [], harness := (true, "e3b2c9961bf8e69dced369db30900b4796c8afe89ac57e42045b678c56606e8f"), looks := true }, kinds := [], alts := [], laidByText := true, laidKinds := [.data, .data, .data, .data, .sentinel, .sentinel, .pinned], laidTests := true, laidLooks := .later }
def JarOwnUptoCardSaid : Prop := Claim7.holds Tryz.pinned (.plain (OpenSpec.upto jarOwnSpec)) jarOwnUptoCard

/-- THE SECOND FORM's CARD OF 'cracknellaw15.JarGreater'. -/
def jarGreaterUptoCard : Claim7 := { stood := { row := jarGreaterUptoRow, standIns := [], harness := (true, "e3b2c9961bf8e69dced369db30900b4796c8afe89ac57e42045b678c56606e8f"), looks := true }, kinds := [], alts := [], laidByText := true, laidKinds := [.data, .data, .data, .data, .sentinel, .sentinel, .pinned], laidTests := true, laidLooks := .later }
def JarGreaterUptoCardSaid : Prop := Claim7.holds Tryz.pinned (.plain (OpenSpec.upto jarGreaterSpec)) jarGreaterUptoCard
end Rows
end Go.Proofs.YtohjohhcjcljoaaGreatDoor
