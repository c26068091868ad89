/-
  DERIVED. GIVEN WITH THE SEED: THE CARDS: each row of YtccmackhhppbdaaGreatDoorRows.lean that lists a variable, with what it lists TIED to the program's text (the seventh form; the later family's looks); each row that meets fmt, with fmt's text TOLD by the authors' own Lean function (tested against real Go, not proved from fmt's source: count such statements apart). THE CARD IS WHAT COUNTS. Prove the row's statement (the work); the ties are given (YtccmackhhppbdaaGreatDoorTie.lean); close each card by the builder's one call (the guide's Derived/Test/ToyasCard.lean, 'card_holds'). Laid BY PROGRAM, IN A SANDBOX (cutbox-door.mjs). By AI agents, Wed Nov 11 2026. No macro, syntax, notation, axiom, sorry.
-/
import Derived.Test.YtccmackhhppbdaaGreatDoorRows
import GoSem.ClaimSeven
namespace Go.Proofs.YtccmackhhppbdaaGreatDoor
namespace Rows

/-- THE TIED CARD OF 'cracknellaw18.ProjJars'. -/
def projJarsCard : Claim7 := { stood := { row := projJarsRow, standIns := [], harness := (true, "25120e7e21504bdeea9a38440b4ae03795e793668eebaba55040cb55c497de20"), looks := true }, kinds := [], alts := [], laidByText := true, laidKinds := [.data, .data, .data, .data, .sentinel, .sentinel, .pinned], laidTests := true, laidLooks := .later }
def ProjJarsCardSaid : Prop := Claim7.holds Tryz.pinned (.plain (OpenSpec.ofChange projJarsSpec)) projJarsCard

/-- THE SECOND FORM's CARD OF 'cracknellaw18.ProjJars'. -/
def projJarsUptoCard : Claim7 := { stood := { row := projJarsUptoRow, standIns := [], harness := (true, "25120e7e21504bdeea9a38440b4ae03795e793668eebaba55040cb55c497de20"), looks := true }, kinds := [], alts := [], laidByText := true, laidKinds := [.data, .data, .data, .data, .sentinel, .sentinel, .pinned], laidTests := true, laidLooks := .later }
def ProjJarsUptoCardSaid : Prop := Claim7.holds Tryz.pinned (.plain (OpenSpec.upto projJarsSpec)) projJarsUptoCard
end Rows
end Go.Proofs.YtccmackhhppbdaaGreatDoor
