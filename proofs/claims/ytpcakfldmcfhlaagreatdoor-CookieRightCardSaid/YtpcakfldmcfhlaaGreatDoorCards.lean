/-
  DERIVED. GIVEN WITH THE SEED: THE CARDS: each row of YtpcakfldmcfhlaaGreatDoorRows.lean that lists a variable, with what it lists TIED to the program's text (the seventh form; the later family's looks); each row that meets fmt, with fmt's text TOLD by the authors' own Lean function (tested against real Go, not proved from fmt's source: count such statements apart). THE CARD IS WHAT COUNTS. Prove the row's statement (the work); the ties are given (YtpcakfldmcfhlaaGreatDoorTie.lean); close each card by the builder's one call (the guide's Derived/Test/ToyasCard.lean, 'card_holds'). Laid BY PROGRAM, IN A SANDBOX (cutbox-door.mjs). By AI agents, Wed Nov 11 2026. No macro, syntax, notation, axiom, sorry.
-/
import Derived.Test.YtpcakfldmcfhlaaGreatDoorRows
import GoSem.ClaimSeven
namespace Go.Proofs.YtpcakfldmcfhlaaGreatDoor
namespace Rows

/-- THE TIED CARD OF 'cracknellaw13.CookieRight'. -/
def cookieRightCard : Claim7 := { stood := { row := cookieRightRow, standIns := [], harness := (true, "4dd586c3c329500c55196bce4c7179b62a6ba4b995aab59f6a547dfbe0c62141"), looks := true }, kinds := [], alts := [], laidByText := true, laidKinds := [.data, .data, .data, .data, .sentinel, .sentinel, .pinned], laidTests := true, laidLooks := .later }
def CookieRightCardSaid : Prop := Claim7.holds Tryz.pinned (.plain (OpenSpec.ofChange cookieRightSpec)) cookieRightCard

/-- THE SECOND FORM's CARD OF 'cracknellaw13.CookieRight'. -/
def cookieRightUptoCard : Claim7 := { stood := { row := cookieRightUptoRow, standIns := [], harness := (true, "4dd586c3c329500c55196bce4c7179b62a6ba4b995aab59f6a547dfbe0c62141"), looks := true }, kinds := [], alts := [], laidByText := true, laidKinds := [.data, .data, .data, .data, .sentinel, .sentinel, .pinned], laidTests := true, laidLooks := .later }
def CookieRightUptoCardSaid : Prop := Claim7.holds Tryz.pinned (.plain (OpenSpec.upto cookieRightSpec)) cookieRightUptoCard
end Rows
end Go.Proofs.YtpcakfldmcfhlaaGreatDoor
