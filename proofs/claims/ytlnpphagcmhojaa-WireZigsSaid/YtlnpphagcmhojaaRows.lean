/-
  No cell of these rows narrows 'for every input' (looked for: loops, veiled, ifaces, maps, wideKeys, modest, calm, conditions, laid).
  DERIVED. THE GIVEN ROWS OF THIS SEAT. 7 by the template 'for every input the law returns true; each argument reads behind the call as it read before'; 0 by the template 'total and deterministic' (their statements: YtlnpphagcmhojaaTotals.lean).
  GIVEN WITH THE SEED: the statements are not yours to turn. If you find one false, say at which input.
  Laid BY PROGRAM, IN A SANDBOX (cutbox-rows.mjs): the forced cells as the released guide's own fill.sh prints them over the translation cf4ac8b4bca0a7c0… (all of the seat's roots in one cut). By AI agents, Wed Nov 11 2026. No macro, syntax, notation, axiom, sorry.
-/
import Derived.Test.YtlnpphagcmhojaaChecked
import GoSem.Claim
import GoSem.ClaimJoined
import GoSem.ClaimMapViews
import Derived.JoinedTies
import Derived.KernelRfl
namespace Go.Proofs.Ytlnpphagcmhojaa
/- THE CELL 'sum', in the pinned program and in every row, IS THE sha256 OF THE DUMP (.gsa) THAT YtlnpphagcmhojaaProg.lean LOADS. Nothing in Lean hashes anything: it is a label: what it is worth is what the hold of that sum in a sandbox is worth. -/
noncomputable def Try.pinned : Pinned := { name := "ytlnpphagcmhojaa", sum := "cf4ac8b4bca0a7c02cba61adaf3d4d7cd4b3c097455decf1f8e196d998ba01ff", checked := Try.checked }
namespace Rows
def none {H : Type} : Left H := { results := [], args := [] }

/-- 'cracknellaw03.WirePuts': WHATEVER THE INPUT: true; the input reads as it did. -/
def wirePutsSpec : ChangeSpec := { name := "wirePuts", fn := fun _ => fun
  | [d1, d2] => { results := [.lit (.bool true)], args := [d1, d2] }
  | _ => none }
def wirePutsRow : OpenClaim := { program := "ytlnpphagcmhojaa", sum := "cf4ac8b4bca0a7c02cba61adaf3d4d7cd4b3c097455decf1f8e196d998ba01ff", func := "cracknel/cracknellaw03.WirePuts", spec := "wirePuts", apart := false }
def WirePutsSaid : Prop := wirePutsRow.holds Try.pinned (OpenSpec.ofChange wirePutsSpec)

/-- ITS FALSE NEIGHBOUR: 'it returns false'. Refute it at one input. -/
def wirePutsWrong : ChangeSpec := { name := "wirePuts", fn := fun _ => fun
  | [d1, d2] => { results := [.lit (.bool false)], args := [d1, d2] }
  | _ => none }
def WirePutsWrongFalsely : Prop := wirePutsRow.holds Try.pinned (OpenSpec.ofChange wirePutsWrong)

/-- 'cracknellaw03.WireTakes': WHATEVER THE INPUT: true; the input reads as it did. -/
def wireTakesSpec : ChangeSpec := { name := "wireTakes", fn := fun _ => fun
  | [d] => { results := [.lit (.bool true)], args := [d] }
  | _ => none }
def wireTakesRow : OpenClaim := { program := "ytlnpphagcmhojaa", sum := "cf4ac8b4bca0a7c02cba61adaf3d4d7cd4b3c097455decf1f8e196d998ba01ff", func := "cracknel/cracknellaw03.WireTakes", spec := "wireTakes", apart := false }
def WireTakesSaid : Prop := wireTakesRow.holds Try.pinned (OpenSpec.ofChange wireTakesSpec)

/-- ITS FALSE NEIGHBOUR: 'it returns false'. Refute it at one input. -/
def wireTakesWrong : ChangeSpec := { name := "wireTakes", fn := fun _ => fun
  | [d] => { results := [.lit (.bool false)], args := [d] }
  | _ => none }
def WireTakesWrongFalsely : Prop := wireTakesRow.holds Try.pinned (OpenSpec.ofChange wireTakesWrong)

/-- 'cracknellaw03.WireZigs': WHATEVER THE INPUT: true; the input reads as it did. -/
def wireZigsSpec : ChangeSpec := { name := "wireZigs", fn := fun _ => fun
  | [d1, d2] => { results := [.lit (.bool true)], args := [d1, d2] }
  | _ => none }
def wireZigsRow : OpenClaim := { program := "ytlnpphagcmhojaa", sum := "cf4ac8b4bca0a7c02cba61adaf3d4d7cd4b3c097455decf1f8e196d998ba01ff", func := "cracknel/cracknellaw03.WireZigs", spec := "wireZigs", apart := false }
def WireZigsSaid : Prop := wireZigsRow.holds Try.pinned (OpenSpec.ofChange wireZigsSpec)

/-- ITS FALSE NEIGHBOUR: 'it returns false'. Refute it at one input. -/
def wireZigsWrong : ChangeSpec := { name := "wireZigs", fn := fun _ => fun
  | [d1, d2] => { results := [.lit (.bool false)], args := [d1, d2] }
  | _ => none }
def WireZigsWrongFalsely : Prop := wireZigsRow.holds Try.pinned (OpenSpec.ofChange wireZigsWrong)

/-- 'cracknellaw03.WireTexts': WHATEVER THE INPUT: true; the input reads as it did. -/
def wireTextsSpec : ChangeSpec := { name := "wireTexts", fn := fun _ => fun
  | [d1, d2, d3] => { results := [.lit (.bool true)], args := [d1, d2, d3] }
  | _ => none }
def wireTextsRow : OpenClaim := { program := "ytlnpphagcmhojaa", sum := "cf4ac8b4bca0a7c02cba61adaf3d4d7cd4b3c097455decf1f8e196d998ba01ff", func := "cracknel/cracknellaw03.WireTexts", spec := "wireTexts", apart := false }
def WireTextsSaid : Prop := wireTextsRow.holds Try.pinned (OpenSpec.ofChange wireTextsSpec)

/-- ITS FALSE NEIGHBOUR: 'it returns false'. Refute it at one input. -/
def wireTextsWrong : ChangeSpec := { name := "wireTexts", fn := fun _ => fun
  | [d1, d2, d3] => { results := [.lit (.bool false)], args := [d1, d2, d3] }
  | _ => none }
def WireTextsWrongFalsely : Prop := wireTextsRow.holds Try.pinned (OpenSpec.ofChange wireTextsWrong)

/-- 'cracknellaw03.WireTakesText': WHATEVER THE INPUT: true; the input reads as it did. -/
def wireTakesTextSpec : ChangeSpec := { name := "wireTakesText", fn := fun _ => fun
  | [d1, d2] => { results := [.lit (.bool true)], args := [d1, d2] }
  | _ => none }
def wireTakesTextRow : OpenClaim := { program := "ytlnpphagcmhojaa", sum := "cf4ac8b4bca0a7c02cba61adaf3d4d7cd4b3c097455decf1f8e196d998ba01ff", func := "cracknel/cracknellaw03.WireTakesText", spec := "wireTakesText", apart := false }
def WireTakesTextSaid : Prop := wireTakesTextRow.holds Try.pinned (OpenSpec.ofChange wireTakesTextSpec)

/-- ITS FALSE NEIGHBOUR: 'it returns false'. Refute it at one input. -/
def wireTakesTextWrong : ChangeSpec := { name := "wireTakesText", fn := fun _ => fun
  | [d1, d2] => { results := [.lit (.bool false)], args := [d1, d2] }
  | _ => none }
def WireTakesTextWrongFalsely : Prop := wireTakesTextRow.holds Try.pinned (OpenSpec.ofChange wireTakesTextWrong)

/-- 'cracknellaw03.WireCuts': WHATEVER THE INPUT: true; the input reads as it did. -/
def wireCutsSpec : ChangeSpec := { name := "wireCuts", fn := fun _ => fun
  | [d1, d2, d3] => { results := [.lit (.bool true)], args := [d1, d2, d3] }
  | _ => none }
def wireCutsRow : OpenClaim := { program := "ytlnpphagcmhojaa", sum := "cf4ac8b4bca0a7c02cba61adaf3d4d7cd4b3c097455decf1f8e196d998ba01ff", func := "cracknel/cracknellaw03.WireCuts", spec := "wireCuts", apart := false }
def WireCutsSaid : Prop := wireCutsRow.holds Try.pinned (OpenSpec.ofChange wireCutsSpec)

/-- ITS FALSE NEIGHBOUR: 'it returns false'. Refute it at one input. -/
def wireCutsWrong : ChangeSpec := { name := "wireCuts", fn := fun _ => fun
  | [d1, d2, d3] => { results := [.lit (.bool false)], args := [d1, d2, d3] }
  | _ => none }
def WireCutsWrongFalsely : Prop := wireCutsRow.holds Try.pinned (OpenSpec.ofChange wireCutsWrong)

/-- 'cracknellaw03.WireApart': WHATEVER THE INPUT: true; the input reads as it did. -/
def wireApartSpec : ChangeSpec := { name := "wireApart", fn := fun _ => fun
  | [d1, d2] => { results := [.lit (.bool true)], args := [d1, d2] }
  | _ => none }
def wireApartRow : OpenClaim := { program := "ytlnpphagcmhojaa", sum := "cf4ac8b4bca0a7c02cba61adaf3d4d7cd4b3c097455decf1f8e196d998ba01ff", func := "cracknel/cracknellaw03.WireApart", spec := "wireApart", apart := false }
def WireApartSaid : Prop := wireApartRow.holds Try.pinned (OpenSpec.ofChange wireApartSpec)

/-- ITS FALSE NEIGHBOUR: 'it returns false'. Refute it at one input. -/
def wireApartWrong : ChangeSpec := { name := "wireApart", fn := fun _ => fun
  | [d1, d2] => { results := [.lit (.bool false)], args := [d1, d2] }
  | _ => none }
def WireApartWrongFalsely : Prop := wireApartRow.holds Try.pinned (OpenSpec.ofChange wireApartWrong)

/- THE SECOND FORM. 'bulk': how many values and letters a reading holds, each counted each time it is reached (what is shared counts as often as it is met; a slice's spare places count too). A statement '..UptoSaid' is the law's where the arguments, and the package variables that the reading takes, are together of bulk at most 1048576: NARROWER than '..Said'. Prove '..Said' where nothing that the law and all that it calls make is longer than what came in: it says more and counts as full. Else prove '..UptoSaid'. A law counts once. -/
mutual
def uptoBulk {H : Type} : DataW H → Nat
  | .lit (.string bytes) => bytes.length + 1
  | .lit _ => 1
  | .nil => 1
  | .ptr d => uptoBulk d + 1
  | .slice elems spare => uptoBulkAll elems + uptoBulkAll spare + 1
  | .agg parts => uptoBulkAll parts + 1
  | .iface _ d => uptoBulk d + 1
  | .map entries => uptoBulkEntries entries + 1
  | .held _ => 1
def uptoBulkAll {H : Type} : List (DataW H) → Nat
  | [] => 0
  | d :: r => uptoBulk d + uptoBulkAll r
def uptoBulkEntries {H : Type} : List (Lit × DataW H) → Nat
  | [] => 0
  | x :: r => uptoBulkEntry x + uptoBulkEntries r
def uptoBulkEntry {H : Type} : Lit × DataW H → Nat
  | (.string bytes, d) => bytes.length + uptoBulk d + 1
  | (_, d) => uptoBulk d + 1
 end
def uptoSmall : (H : Type) → List (DataW H) → Bool := fun _ ds => decide (uptoBulkAll ds ≤ 1048576)
def OpenSpec.upto (s : _root_.Go.ChangeSpec) : _root_.Go.OpenSpec := { _root_.Go.OpenSpec.ofChange s with cond := some uptoSmall }

/-- 'cracknellaw03.WirePuts', WHERE WHAT IT READS IS OF BULK AT MOST 1048576: true; the input reads as it did. -/
def wirePutsUptoRow : OpenClaim := { program := "ytlnpphagcmhojaa", sum := "cf4ac8b4bca0a7c02cba61adaf3d4d7cd4b3c097455decf1f8e196d998ba01ff", func := "cracknel/cracknellaw03.WirePuts", spec := "wirePuts", apart := false, narrowed := true }
def WirePutsUptoSaid : Prop := wirePutsUptoRow.holds Try.pinned (OpenSpec.upto wirePutsSpec)

/-- 'cracknellaw03.WireTakes', WHERE WHAT IT READS IS OF BULK AT MOST 1048576: true; the input reads as it did. -/
def wireTakesUptoRow : OpenClaim := { program := "ytlnpphagcmhojaa", sum := "cf4ac8b4bca0a7c02cba61adaf3d4d7cd4b3c097455decf1f8e196d998ba01ff", func := "cracknel/cracknellaw03.WireTakes", spec := "wireTakes", apart := false, narrowed := true }
def WireTakesUptoSaid : Prop := wireTakesUptoRow.holds Try.pinned (OpenSpec.upto wireTakesSpec)

/-- 'cracknellaw03.WireZigs', WHERE WHAT IT READS IS OF BULK AT MOST 1048576: true; the input reads as it did. -/
def wireZigsUptoRow : OpenClaim := { program := "ytlnpphagcmhojaa", sum := "cf4ac8b4bca0a7c02cba61adaf3d4d7cd4b3c097455decf1f8e196d998ba01ff", func := "cracknel/cracknellaw03.WireZigs", spec := "wireZigs", apart := false, narrowed := true }
def WireZigsUptoSaid : Prop := wireZigsUptoRow.holds Try.pinned (OpenSpec.upto wireZigsSpec)

/-- 'cracknellaw03.WireTexts', WHERE WHAT IT READS IS OF BULK AT MOST 1048576: true; the input reads as it did. -/
def wireTextsUptoRow : OpenClaim := { program := "ytlnpphagcmhojaa", sum := "cf4ac8b4bca0a7c02cba61adaf3d4d7cd4b3c097455decf1f8e196d998ba01ff", func := "cracknel/cracknellaw03.WireTexts", spec := "wireTexts", apart := false, narrowed := true }
def WireTextsUptoSaid : Prop := wireTextsUptoRow.holds Try.pinned (OpenSpec.upto wireTextsSpec)

/-- 'cracknellaw03.WireTakesText', WHERE WHAT IT READS IS OF BULK AT MOST 1048576: true; the input reads as it did. -/
def wireTakesTextUptoRow : OpenClaim := { program := "ytlnpphagcmhojaa", sum := "cf4ac8b4bca0a7c02cba61adaf3d4d7cd4b3c097455decf1f8e196d998ba01ff", func := "cracknel/cracknellaw03.WireTakesText", spec := "wireTakesText", apart := false, narrowed := true }
def WireTakesTextUptoSaid : Prop := wireTakesTextUptoRow.holds Try.pinned (OpenSpec.upto wireTakesTextSpec)

/-- 'cracknellaw03.WireCuts', WHERE WHAT IT READS IS OF BULK AT MOST 1048576: true; the input reads as it did. -/
def wireCutsUptoRow : OpenClaim := { program := "ytlnpphagcmhojaa", sum := "cf4ac8b4bca0a7c02cba61adaf3d4d7cd4b3c097455decf1f8e196d998ba01ff", func := "cracknel/cracknellaw03.WireCuts", spec := "wireCuts", apart := false, narrowed := true }
def WireCutsUptoSaid : Prop := wireCutsUptoRow.holds Try.pinned (OpenSpec.upto wireCutsSpec)

/-- 'cracknellaw03.WireApart', WHERE WHAT IT READS IS OF BULK AT MOST 1048576: true; the input reads as it did. -/
def wireApartUptoRow : OpenClaim := { program := "ytlnpphagcmhojaa", sum := "cf4ac8b4bca0a7c02cba61adaf3d4d7cd4b3c097455decf1f8e196d998ba01ff", func := "cracknel/cracknellaw03.WireApart", spec := "wireApart", apart := false, narrowed := true }
def WireApartUptoSaid : Prop := wireApartUptoRow.holds Try.pinned (OpenSpec.upto wireApartSpec)

end Rows
end Go.Proofs.Ytlnpphagcmhojaa
