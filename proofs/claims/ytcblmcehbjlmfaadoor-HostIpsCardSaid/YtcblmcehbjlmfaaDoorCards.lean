/-
  DERIVED. GIVEN WITH THE SEED: THE CARDS: each row of YtcblmcehbjlmfaaDoorRows.lean that lists a variable, with what it lists TIED to the program's text (the seventh form; the later family's looks); each row that meets fmt, with fmt's text TOLD by the authors' own Lean function (tested against real Go, not proved from fmt's source: count such statements apart). THE CARD IS WHAT COUNTS. Prove the row's statement (the work); the ties are given (YtcblmcehbjlmfaaDoorTie.lean); close each card by the builder's one call (the guide's Derived/Test/ToyasCard.lean, 'card_holds'). Laid BY PROGRAM, IN A SANDBOX (cutbox-door.mjs). By AI agents, Wed Nov 11 2026. No macro, syntax, notation, axiom, sorry.
-/
import Derived.Test.YtcblmcehbjlmfaaDoorRows
import GoSem.ClaimSeven
namespace Go.Proofs.YtcblmcehbjlmfaaDoor
namespace Rows

/-- THE TIED CARD OF 'cracknellaw11.HostCanon'. -/
def hostCanonCard : Claim7 := { stood := { row := hostCanonRow, standIns := [], harness := (true, "f4593226523c68dd24e23c27af291aa9baf687fc14a6f8723a652d4f5a87eb9e"), looks := true }, kinds := [], alts := [], laidByText := true, laidKinds := [.data, .data, .data, .data, .sentinel, .sentinel, .pinned], laidTests := true, laidLooks := .later }
def HostCanonCardSaid : Prop := Claim7.holds Tryd.pinned (.plain (OpenSpec.ofChange hostCanonSpec)) hostCanonCard

/-- THE TIED CARD OF 'cracknellaw11.HostIps'. -/
def hostIpsCard : Claim7 := { stood := { row := hostIpsRow, standIns := [], harness := (true, "f4593226523c68dd24e23c27af291aa9baf687fc14a6f8723a652d4f5a87eb9e"), looks := true }, kinds := [], alts := [], laidByText := true, laidKinds := [.data, .data, .data, .data, .sentinel, .sentinel, .pinned], laidTests := true, laidLooks := .later }
def HostIpsCardSaid : Prop := Claim7.holds Tryd.pinned (.plain (OpenSpec.ofChange hostIpsSpec)) hostIpsCard

/-- THE TIED CARD OF 'cracknellaw11.HostMatches'. -/
def hostMatchesCard : Claim7 := { stood := { row := hostMatchesRow, standIns := [], harness := (true, "f4593226523c68dd24e23c27af291aa9baf687fc14a6f8723a652d4f5a87eb9e"), looks := true }, kinds := [], alts := [], laidByText := true, laidKinds := [.data, .data, .data, .data, .sentinel, .sentinel, .pinned], laidTests := true, laidLooks := .later }
def HostMatchesCardSaid : Prop := Claim7.holds Tryd.pinned (.plain (OpenSpec.ofChange hostMatchesSpec)) hostMatchesCard

/-- THE TIED CARD OF 'cracknellaw11.HostParents'. -/
def hostParentsCard : Claim7 := { stood := { row := hostParentsRow, standIns := [], harness := (true, "f4593226523c68dd24e23c27af291aa9baf687fc14a6f8723a652d4f5a87eb9e"), looks := true }, kinds := [], alts := [], laidByText := true, laidKinds := [.data, .data, .data, .data, .sentinel, .sentinel, .pinned], laidTests := true, laidLooks := .later }
def HostParentsCardSaid : Prop := Claim7.holds Tryd.pinned (.plain (OpenSpec.ofChange hostParentsSpec)) hostParentsCard

/-- THE TIED CARD OF 'cracknellaw11.HostTransitive'. -/
def hostTransitiveCard : Claim7 := { stood := { row := hostTransitiveRow, standIns := [], harness := (true, "f4593226523c68dd24e23c27af291aa9baf687fc14a6f8723a652d4f5a87eb9e"), looks := true }, kinds := [], alts := [], laidByText := true, laidKinds := [.data, .data, .data, .data, .sentinel, .sentinel, .pinned], laidTests := true, laidLooks := .later }
def HostTransitiveCardSaid : Prop := Claim7.holds Tryd.pinned (.plain (OpenSpec.ofChange hostTransitiveSpec)) hostTransitiveCard

/-- THE TIED CARD OF 'cracknellaw11.HostUnder'. -/
def hostUnderCard : Claim7 := { stood := { row := hostUnderRow, standIns := [], harness := (true, "f4593226523c68dd24e23c27af291aa9baf687fc14a6f8723a652d4f5a87eb9e"), looks := true }, kinds := [], alts := [], laidByText := true, laidKinds := [.data, .data, .data, .data, .sentinel, .sentinel, .pinned], laidTests := true, laidLooks := .later }
def HostUnderCardSaid : Prop := Claim7.holds Tryd.pinned (.plain (OpenSpec.ofChange hostUnderSpec)) hostUnderCard

/-- THE SECOND FORM's CARD OF 'cracknellaw11.HostCanon'. -/
def hostCanonUptoCard : Claim7 := { stood := { row := hostCanonUptoRow, standIns := [], harness := (true, "f4593226523c68dd24e23c27af291aa9baf687fc14a6f8723a652d4f5a87eb9e"), looks := true }, kinds := [], alts := [], laidByText := true, laidKinds := [.data, .data, .data, .data, .sentinel, .sentinel, .pinned], laidTests := true, laidLooks := .later }
def HostCanonUptoCardSaid : Prop := Claim7.holds Tryd.pinned (.plain (OpenSpec.upto hostCanonSpec)) hostCanonUptoCard

/-- THE SECOND FORM's CARD OF 'cracknellaw11.HostIps'. -/
def hostIpsUptoCard : Claim7 := { stood := { row := hostIpsUptoRow, standIns := [], harness := (true, "f4593226523c68dd24e23c27af291aa9baf687fc14a6f8723a652d4f5a87eb9e"), looks := true }, kinds := [], alts := [], laidByText := true, laidKinds := [.data, .data, .data, .data, .sentinel, .sentinel, .pinned], laidTests := true, laidLooks := .later }
def HostIpsUptoCardSaid : Prop := Claim7.holds Tryd.pinned (.plain (OpenSpec.upto hostIpsSpec)) hostIpsUptoCard

/-- THE SECOND FORM's CARD OF 'cracknellaw11.HostMatches'. -/
def hostMatchesUptoCard : Claim7 := { stood := { row := hostMatchesUptoRow, standIns := [], harness := (true, "f4593226523c68dd24e23c27af291aa9baf687fc14a6f8723a652d4f5a87eb9e"), looks := true }, kinds := [], alts := [], laidByText := true, laidKinds := [.data, .data, .data, .data, .sentinel, .sentinel, .pinned], laidTests := true, laidLooks := .later }
def HostMatchesUptoCardSaid : Prop := Claim7.holds Tryd.pinned (.plain (OpenSpec.upto hostMatchesSpec)) hostMatchesUptoCard

/-- THE SECOND FORM's CARD OF 'cracknellaw11.HostParents'. -/
def hostParentsUptoCard : Claim7 := { stood := { row := hostParentsUptoRow, standIns := [], harness := (true, "f4593226523c68dd24e23c27af291aa9baf687fc14a6f8723a652d4f5a87eb9e"), looks := true }, kinds := [], alts := [], laidByText := true, laidKinds := [.data, .data, .data, .data, .sentinel, .sentinel, .pinned], laidTests := true, laidLooks := .later }
def HostParentsUptoCardSaid : Prop := Claim7.holds Tryd.pinned (.plain (OpenSpec.upto hostParentsSpec)) hostParentsUptoCard

/-- THE SECOND FORM's CARD OF 'cracknellaw11.HostTransitive'. -/
def hostTransitiveUptoCard : Claim7 := { stood := { row := hostTransitiveUptoRow, standIns := [], harness := (true, "f4593226523c68dd24e23c27af291aa9baf687fc14a6f8723a652d4f5a87eb9e"), looks := true }, kinds := [], alts := [], laidByText := true, laidKinds := [.data, .data, .data, .data, .sentinel, .sentinel, .pinned], laidTests := true, laidLooks := .later }
def HostTransitiveUptoCardSaid : Prop := Claim7.holds Tryd.pinned (.plain (OpenSpec.upto hostTransitiveSpec)) hostTransitiveUptoCard

/-- THE SECOND FORM's CARD OF 'cracknellaw11.HostUnder'. -/
def hostUnderUptoCard : Claim7 := { stood := { row := hostUnderUptoRow, standIns := [], harness := (true, "f4593226523c68dd24e23c27af291aa9baf687fc14a6f8723a652d4f5a87eb9e"), looks := true }, kinds := [], alts := [], laidByText := true, laidKinds := [.data, .data, .data, .data, .sentinel, .sentinel, .pinned], laidTests := true, laidLooks := .later }
def HostUnderUptoCardSaid : Prop := Claim7.holds Tryd.pinned (.plain (OpenSpec.upto hostUnderSpec)) hostUnderUptoCard
end Rows
end Go.Proofs.YtcblmcehbjlmfaaDoor
