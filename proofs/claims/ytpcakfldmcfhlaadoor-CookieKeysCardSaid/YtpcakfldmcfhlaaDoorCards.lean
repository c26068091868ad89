/-
  DERIVED. GIVEN WITH THE SEED: THE CARDS: each row of YtpcakfldmcfhlaaDoorRows.lean that lists a variable, with what it lists TIED to the program's text (the seventh form; the later family's looks); each row that meets fmt, with fmt's text TOLD by the authors' own Lean function (tested against real Go, not proved from fmt's source: count such statements apart). THE CARD IS WHAT COUNTS. Prove the row's statement (the work); the ties are given (YtpcakfldmcfhlaaDoorTie.lean); close each card by the builder's one call (the guide's Derived/Test/ToyasCard.lean, 'card_holds'). Laid BY PROGRAM, IN A SANDBOX (cutbox-door.mjs). By AI agents, Wed Nov 11 2026. No macro, syntax, notation, axiom, sorry.
-/
import Derived.Test.YtpcakfldmcfhlaaDoorRows
import GoSem.ClaimSeven
namespace Go.Proofs.YtpcakfldmcfhlaaDoor
namespace Rows

/-- THE TIED CARD OF 'cracknellaw13.CookieKeys'. -/
def cookieKeysCard : Claim7 := { stood := { row := cookieKeysRow, standIns := [], harness := (true, "b4690e3be4c1cb9a0fe0902cbe962fd4102720c15909b8241735274fe68b2afd"), looks := true }, kinds := [], alts := [], laidByText := true, laidKinds := [.data, .data, .data, .data, .sentinel, .sentinel, .pinned], laidTests := true, laidLooks := .later }
def CookieKeysCardSaid : Prop := Claim7.holds Tryd.pinned (.plain (OpenSpec.ofChange cookieKeysSpec)) cookieKeysCard

/-- THE TIED CARD OF 'cracknellaw13.CookieOrders'. -/
def cookieOrdersCard : Claim7 := { stood := { row := cookieOrdersRow, standIns := [], harness := (true, "b4690e3be4c1cb9a0fe0902cbe962fd4102720c15909b8241735274fe68b2afd"), looks := true }, kinds := [], alts := [], laidByText := true, laidKinds := [.data, .data, .data, .data, .sentinel, .sentinel, .pinned], laidTests := true, laidLooks := .later }
def CookieOrdersCardSaid : Prop := Claim7.holds Tryd.pinned (.plain (OpenSpec.ofChange cookieOrdersSpec)) cookieOrdersCard

/-- THE TIED CARD OF 'cracknellaw13.CookieTransitive'. -/
def cookieTransitiveCard : Claim7 := { stood := { row := cookieTransitiveRow, standIns := [], harness := (true, "b4690e3be4c1cb9a0fe0902cbe962fd4102720c15909b8241735274fe68b2afd"), looks := true }, kinds := [], alts := [], laidByText := true, laidKinds := [.data, .data, .data, .data, .sentinel, .sentinel, .pinned], laidTests := true, laidLooks := .later }
def CookieTransitiveCardSaid : Prop := Claim7.holds Tryd.pinned (.plain (OpenSpec.ofChange cookieTransitiveSpec)) cookieTransitiveCard

/-- THE TIED CARD OF 'cracknellaw13.CookieGreater'. -/
def cookieGreaterCard : Claim7 := { stood := { row := cookieGreaterRow, standIns := [], harness := (true, "b4690e3be4c1cb9a0fe0902cbe962fd4102720c15909b8241735274fe68b2afd"), looks := true }, kinds := [], alts := [], laidByText := true, laidKinds := [.data, .data, .data, .data, .sentinel, .sentinel, .pinned], laidTests := true, laidLooks := .later }
def CookieGreaterCardSaid : Prop := Claim7.holds Tryd.pinned (.plain (OpenSpec.ofChange cookieGreaterSpec)) cookieGreaterCard

/-- THE TIED CARD OF 'cracknellaw13.CookieLive'. -/
def cookieLiveCard : Claim7 := { stood := { row := cookieLiveRow, standIns := [], harness := (true, "b4690e3be4c1cb9a0fe0902cbe962fd4102720c15909b8241735274fe68b2afd"), looks := true }, kinds := [], alts := [], laidByText := true, laidKinds := [.data, .data, .data, .data, .sentinel, .sentinel, .pinned], laidTests := true, laidLooks := .later }
def CookieLiveCardSaid : Prop := Claim7.holds Tryd.pinned (.plain (OpenSpec.ofChange cookieLiveSpec)) cookieLiveCard

/-- THE TIED CARD OF 'cracknellaw13.CookieSends'. -/
def cookieSendsCard : Claim7 := { stood := { row := cookieSendsRow, standIns := [], harness := (true, "b4690e3be4c1cb9a0fe0902cbe962fd4102720c15909b8241735274fe68b2afd"), looks := true }, kinds := [], alts := [], laidByText := true, laidKinds := [.data, .data, .data, .data, .sentinel, .sentinel, .pinned], laidTests := true, laidLooks := .later }
def CookieSendsCardSaid : Prop := Claim7.holds Tryd.pinned (.plain (OpenSpec.ofChange cookieSendsSpec)) cookieSendsCard

/-- THE SECOND FORM's CARD OF 'cracknellaw13.CookieKeys'. -/
def cookieKeysUptoCard : Claim7 := { stood := { row := cookieKeysUptoRow, standIns := [], harness := (true, "b4690e3be4c1cb9a0fe0902cbe962fd4102720c15909b8241735274fe68b2afd"), looks := true }, kinds := [], alts := [], laidByText := true, laidKinds := [.data, .data, .data, .data, .sentinel, .sentinel, .pinned], laidTests := true, laidLooks := .later }
def CookieKeysUptoCardSaid : Prop := Claim7.holds Tryd.pinned (.plain (OpenSpec.upto cookieKeysSpec)) cookieKeysUptoCard

/-- THE SECOND FORM's CARD OF 'cracknellaw13.CookieOrders'. -/
def cookieOrdersUptoCard : Claim7 := { stood := { row := cookieOrdersUptoRow, standIns := [], harness := (true, "b4690e3be4c1cb9a0fe0902cbe962fd4102720c15909b8241735274fe68b2afd"), looks := true }, kinds := [], alts := [], laidByText := true, laidKinds := [.data, .data, .data, .data, .sentinel, .sentinel, .pinned], laidTests := true, laidLooks := .later }
def CookieOrdersUptoCardSaid : Prop := Claim7.holds Tryd.pinned (.plain (OpenSpec.upto cookieOrdersSpec)) cookieOrdersUptoCard

/-- THE SECOND FORM's CARD OF 'cracknellaw13.CookieTransitive'. -/
def cookieTransitiveUptoCard : Claim7 := { stood := { row := cookieTransitiveUptoRow, standIns := [], harness := (true, "b4690e3be4c1cb9a0fe0902cbe962fd4102720c15909b8241735274fe68b2afd"), looks := true }, kinds := [], alts := [], laidByText := true, laidKinds := [.data, .data, .data, .data, .sentinel, .sentinel, .pinned], laidTests := true, laidLooks := .later }
def CookieTransitiveUptoCardSaid : Prop := Claim7.holds Tryd.pinned (.plain (OpenSpec.upto cookieTransitiveSpec)) cookieTransitiveUptoCard

/-- THE SECOND FORM's CARD OF 'cracknellaw13.CookieGreater'. -/
def cookieGreaterUptoCard : Claim7 := { stood := { row := cookieGreaterUptoRow, standIns := [], harness := (true, "b4690e3be4c1cb9a0fe0902cbe962fd4102720c15909b8241735274fe68b2afd"), looks := true }, kinds := [], alts := [], laidByText := true, laidKinds := [.data, .data, .data, .data, .sentinel, .sentinel, .pinned], laidTests := true, laidLooks := .later }
def CookieGreaterUptoCardSaid : Prop := Claim7.holds Tryd.pinned (.plain (OpenSpec.upto cookieGreaterSpec)) cookieGreaterUptoCard

/-- THE SECOND FORM's CARD OF 'cracknellaw13.CookieLive'. -/
def cookieLiveUptoCard : Claim7 := { stood := { row := cookieLiveUptoRow, standIns := [], harness := (true, "b4690e3be4c1cb9a0fe0902cbe962fd4102720c15909b8241735274fe68b2afd"), looks := true }, kinds := [], alts := [], laidByText := true, laidKinds := [.data, .data, .data, .data, .sentinel, .sentinel, .pinned], laidTests := true, laidLooks := .later }
def CookieLiveUptoCardSaid : Prop := Claim7.holds Tryd.pinned (.plain (OpenSpec.upto cookieLiveSpec)) cookieLiveUptoCard

/-- THE SECOND FORM's CARD OF 'cracknellaw13.CookieSends'. -/
def cookieSendsUptoCard : Claim7 := { stood := { row := cookieSendsUptoRow, standIns := [], harness := (true, "b4690e3be4c1cb9a0fe0902cbe962fd4102720c15909b8241735274fe68b2afd"), looks := true }, kinds := [], alts := [], laidByText := true, laidKinds := [.data, .data, .data, .data, .sentinel, .sentinel, .pinned], laidTests := true, laidLooks := .later }
def CookieSendsUptoCardSaid : Prop := Claim7.holds Tryd.pinned (.plain (OpenSpec.upto cookieSendsSpec)) cookieSendsUptoCard
end Rows
end Go.Proofs.YtpcakfldmcfhlaaDoor
