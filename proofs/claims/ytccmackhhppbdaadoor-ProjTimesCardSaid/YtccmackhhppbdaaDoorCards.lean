/-
  DERIVED. GIVEN WITH THE SEED: THE CARDS: each row of YtccmackhhppbdaaDoorRows.lean that lists a variable, with what it lists TIED to the program's text (the seventh form; the later family's looks); each row that meets fmt, with fmt's text TOLD by the authors' own Lean function (tested against real Go, not proved from fmt's source: count such statements apart). THE CARD IS WHAT COUNTS. Prove the row's statement (the work); the ties are given (YtccmackhhppbdaaDoorTie.lean); close each card by the builder's one call (the guide's Derived/Test/ToyasCard.lean, 'card_holds'). Laid BY PROGRAM, IN A SANDBOX (cutbox-door.mjs). By AI agents, Wed Nov 11 2026. No macro, syntax, notation, axiom, sorry.
-/
import Derived.Test.YtccmackhhppbdaaDoorRows
import GoSem.ClaimSeven
namespace Go.Proofs.YtccmackhhppbdaaDoor
namespace Rows

/-- THE TIED CARD OF 'cracknellaw18.ProjWords'. -/
def projWordsCard : Claim7 := { stood := { row := projWordsRow, standIns := [], harness := (true, "c8d8b13ae6bd642553567b861825812ca0668d9f65a5dca7f5f73538728ec62b"), looks := true }, kinds := [], alts := [], laidByText := true, laidKinds := [.data, .data, .data, .data, .sentinel, .sentinel, .pinned], laidTests := true, laidLooks := .later }
def ProjWordsCardSaid : Prop := Claim7.holds Tryd.pinned (.plain (OpenSpec.ofChange projWordsSpec)) projWordsCard

/-- THE TIED CARD OF 'cracknellaw18.ProjCookies'. -/
def projCookiesCard : Claim7 := { stood := { row := projCookiesRow, standIns := [], harness := (true, "c8d8b13ae6bd642553567b861825812ca0668d9f65a5dca7f5f73538728ec62b"), looks := true }, kinds := [], alts := [], laidByText := true, laidKinds := [.data, .data, .data, .data, .sentinel, .sentinel, .pinned], laidTests := true, laidLooks := .later }
def ProjCookiesCardSaid : Prop := Claim7.holds Tryd.pinned (.plain (OpenSpec.ofChange projCookiesSpec)) projCookiesCard

/-- THE TIED CARD OF 'cracknellaw18.ProjTwice'. -/
def projTwiceCard : Claim7 := { stood := { row := projTwiceRow, standIns := [], harness := (true, "c8d8b13ae6bd642553567b861825812ca0668d9f65a5dca7f5f73538728ec62b"), looks := true }, kinds := [], alts := [], laidByText := true, laidKinds := [.data, .data, .data, .data, .sentinel, .sentinel, .pinned], laidTests := true, laidLooks := .later }
def ProjTwiceCardSaid : Prop := Claim7.holds Tryd.pinned (.plain (OpenSpec.ofChange projTwiceSpec)) projTwiceCard

/-- THE TIED CARD OF 'cracknellaw18.ProjChain'. -/
def projChainCard : Claim7 := { stood := { row := projChainRow, standIns := [], harness := (true, "c8d8b13ae6bd642553567b861825812ca0668d9f65a5dca7f5f73538728ec62b"), looks := true }, kinds := [], alts := [], laidByText := true, laidKinds := [.data, .data, .data, .data, .sentinel, .sentinel, .pinned], laidTests := true, laidLooks := .later }
def ProjChainCardSaid : Prop := Claim7.holds Tryd.pinned (.plain (OpenSpec.ofChange projChainSpec)) projChainCard

/-- THE TIED CARD OF 'cracknellaw18.ProjTimes'. -/
def projTimesCard : Claim7 := { stood := { row := projTimesRow, standIns := [], harness := (true, "c8d8b13ae6bd642553567b861825812ca0668d9f65a5dca7f5f73538728ec62b"), looks := true }, kinds := [], alts := [], laidByText := true, laidKinds := [.data, .data, .data, .data, .sentinel, .sentinel, .pinned], laidTests := true, laidLooks := .later }
def ProjTimesCardSaid : Prop := Claim7.holds Tryd.pinned (.plain (OpenSpec.ofChange projTimesSpec)) projTimesCard

/-- THE SECOND FORM's CARD OF 'cracknellaw18.ProjWords'. -/
def projWordsUptoCard : Claim7 := { stood := { row := projWordsUptoRow, standIns := [], harness := (true, "c8d8b13ae6bd642553567b861825812ca0668d9f65a5dca7f5f73538728ec62b"), looks := true }, kinds := [], alts := [], laidByText := true, laidKinds := [.data, .data, .data, .data, .sentinel, .sentinel, .pinned], laidTests := true, laidLooks := .later }
def ProjWordsUptoCardSaid : Prop := Claim7.holds Tryd.pinned (.plain (OpenSpec.upto projWordsSpec)) projWordsUptoCard

/-- THE SECOND FORM's CARD OF 'cracknellaw18.ProjCookies'. -/
def projCookiesUptoCard : Claim7 := { stood := { row := projCookiesUptoRow, standIns := [], harness := (true, "c8d8b13ae6bd642553567b861825812ca0668d9f65a5dca7f5f73538728ec62b"), looks := true }, kinds := [], alts := [], laidByText := true, laidKinds := [.data, .data, .data, .data, .sentinel, .sentinel, .pinned], laidTests := true, laidLooks := .later }
def ProjCookiesUptoCardSaid : Prop := Claim7.holds Tryd.pinned (.plain (OpenSpec.upto projCookiesSpec)) projCookiesUptoCard

/-- THE SECOND FORM's CARD OF 'cracknellaw18.ProjTwice'. -/
def projTwiceUptoCard : Claim7 := { stood := { row := projTwiceUptoRow, standIns := [], harness := (true, "c8d8b13ae6bd642553567b861825812ca0668d9f65a5dca7f5f73538728ec62b"), looks := true }, kinds := [], alts := [], laidByText := true, laidKinds := [.data, .data, .data, .data, .sentinel, .sentinel, .pinned], laidTests := true, laidLooks := .later }
def ProjTwiceUptoCardSaid : Prop := Claim7.holds Tryd.pinned (.plain (OpenSpec.upto projTwiceSpec)) projTwiceUptoCard

/-- THE SECOND FORM's CARD OF 'cracknellaw18.ProjChain'. -/
def projChainUptoCard : Claim7 := { stood := { row := projChainUptoRow, standIns := [], harness := (true, "c8d8b13ae6bd642553567b861825812ca0668d9f65a5dca7f5f73538728ec62b"), looks := true }, kinds := [], alts := [], laidByText := true, laidKinds := [.data, .data, .data, .data, .sentinel, .sentinel, .pinned], laidTests := true, laidLooks := .later }
def ProjChainUptoCardSaid : Prop := Claim7.holds Tryd.pinned (.plain (OpenSpec.upto projChainSpec)) projChainUptoCard

/-- THE SECOND FORM's CARD OF 'cracknellaw18.ProjTimes'. -/
def projTimesUptoCard : Claim7 := { stood := { row := projTimesUptoRow, standIns := [], harness := (true, "c8d8b13ae6bd642553567b861825812ca0668d9f65a5dca7f5f73538728ec62b"), looks := true }, kinds := [], alts := [], laidByText := true, laidKinds := [.data, .data, .data, .data, .sentinel, .sentinel, .pinned], laidTests := true, laidLooks := .later }
def ProjTimesUptoCardSaid : Prop := Claim7.holds Tryd.pinned (.plain (OpenSpec.upto projTimesSpec)) projTimesUptoCard
end Rows
end Go.Proofs.YtccmackhhppbdaaDoor
