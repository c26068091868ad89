/-
  No cell of these rows narrows 'for every input' (looked for: loops, veiled, ifaces, maps, wideKeys, modest, calm, conditions, laid).
  DERIVED. THE GIVEN ROWS OF THIS SEAT. 6 by the template 'for every input the law returns true; each argument reads behind the call as it read before'; 0 by the template 'total and deterministic' (their statements: YtmpccjkdfdgedaaTotals.lean).
  GIVEN WITH THE SEED: the statements are not yours to turn. If you find one false, say at which input.
  Laid BY PROGRAM, IN A SANDBOX (cutbox-rows.mjs): the forced cells as the released guide's own fill.sh prints them over the translation d0a59d3c16b80689… (all of the seat's roots in one cut). By AI agents, Wed Nov 11 2026. No macro, syntax, notation, axiom, sorry.
-/
import Derived.Test.YtmpccjkdfdgedaaChecked
import GoSem.Claim
import GoSem.ClaimJoined
import GoSem.ClaimMapViews
import Derived.JoinedTies
import Derived.KernelRfl
namespace Go.Proofs.Ytmpccjkdfdgedaa
/- THE CELL 'sum', in the pinned program and in every row, IS THE sha256 OF THE DUMP (.gsa) THAT YtmpccjkdfdgedaaProg.lean LOADS. Nothing in Lean hashes anything: it is a label: what it is worth is what the hold of that sum in a sandbox is worth. -/
noncomputable def Try.pinned : Pinned := { name := "ytmpccjkdfdgedaa", sum := "d0a59d3c16b806895133a7a6e9a06e8786d41b5cd1cc988517c7c211aa1c480c", checked := Try.checked }
namespace Rows
def none {H : Type} : Left H := { results := [], args := [] }

/-- 'cracknellaw14.TableAll': WHATEVER THE INPUT: true; the input reads as it did. -/
def tableAllSpec : ChangeSpec := { name := "tableAll", fn := fun _ => fun
  | [d] => { results := [.lit (.bool true)], args := [d] }
  | _ => none }
def tableAllRow : OpenClaim := { program := "ytmpccjkdfdgedaa", sum := "d0a59d3c16b806895133a7a6e9a06e8786d41b5cd1cc988517c7c211aa1c480c", func := "cracknel/cracknellaw14.TableAll", spec := "tableAll", unfollowed := true, recurses := true, apart := false }
def TableAllSaid : Prop := tableAllRow.holds Try.pinned (OpenSpec.ofChange tableAllSpec)

/-- ITS FALSE NEIGHBOUR: 'it returns false'. Refute it at one input. -/
def tableAllWrong : ChangeSpec := { name := "tableAll", fn := fun _ => fun
  | [d] => { results := [.lit (.bool false)], args := [d] }
  | _ => none }
def TableAllWrongFalsely : Prop := tableAllRow.holds Try.pinned (OpenSpec.ofChange tableAllWrong)

/-- 'cracknellaw14.TableGets': WHATEVER THE INPUT: true; the input reads as it did. -/
def tableGetsSpec : ChangeSpec := { name := "tableGets", fn := fun _ => fun
  | [d1, d2] => { results := [.lit (.bool true)], args := [d1, d2] }
  | _ => none }
def tableGetsRow : OpenClaim := { program := "ytmpccjkdfdgedaa", sum := "d0a59d3c16b806895133a7a6e9a06e8786d41b5cd1cc988517c7c211aa1c480c", func := "cracknel/cracknellaw14.TableGets", spec := "tableGets", unfollowed := true, recurses := true, apart := false }
def TableGetsSaid : Prop := tableGetsRow.holds Try.pinned (OpenSpec.ofChange tableGetsSpec)

/-- ITS FALSE NEIGHBOUR: 'it returns false'. Refute it at one input. -/
def tableGetsWrong : ChangeSpec := { name := "tableGets", fn := fun _ => fun
  | [d1, d2] => { results := [.lit (.bool false)], args := [d1, d2] }
  | _ => none }
def TableGetsWrongFalsely : Prop := tableGetsRow.holds Try.pinned (OpenSpec.ofChange tableGetsWrong)

/-- 'cracknellaw14.TableOwn': WHATEVER THE INPUT: true; the input reads as it did. -/
def tableOwnSpec : ChangeSpec := { name := "tableOwn", fn := fun _ => fun
  | [d1, d2] => { results := [.lit (.bool true)], args := [d1, d2] }
  | _ => none }
def tableOwnRow : OpenClaim := { program := "ytmpccjkdfdgedaa", sum := "d0a59d3c16b806895133a7a6e9a06e8786d41b5cd1cc988517c7c211aa1c480c", func := "cracknel/cracknellaw14.TableOwn", spec := "tableOwn", unfollowed := true, recurses := true, apart := false }
def TableOwnSaid : Prop := tableOwnRow.holds Try.pinned (OpenSpec.ofChange tableOwnSpec)

/-- ITS FALSE NEIGHBOUR: 'it returns false'. Refute it at one input. -/
def tableOwnWrong : ChangeSpec := { name := "tableOwn", fn := fun _ => fun
  | [d1, d2] => { results := [.lit (.bool false)], args := [d1, d2] }
  | _ => none }
def TableOwnWrongFalsely : Prop := tableOwnRow.holds Try.pinned (OpenSpec.ofChange tableOwnWrong)

/-- 'cracknellaw14.TableMerges': WHATEVER THE INPUT: true; the input reads as it did. -/
def tableMergesSpec : ChangeSpec := { name := "tableMerges", fn := fun _ => fun
  | [d1, d2] => { results := [.lit (.bool true)], args := [d1, d2] }
  | _ => none }
def tableMergesRow : OpenClaim := { program := "ytmpccjkdfdgedaa", sum := "d0a59d3c16b806895133a7a6e9a06e8786d41b5cd1cc988517c7c211aa1c480c", func := "cracknel/cracknellaw14.TableMerges", spec := "tableMerges", unfollowed := true, recurses := true, apart := false }
def TableMergesSaid : Prop := tableMergesRow.holds Try.pinned (OpenSpec.ofChange tableMergesSpec)

/-- ITS FALSE NEIGHBOUR: 'it returns false'. Refute it at one input. -/
def tableMergesWrong : ChangeSpec := { name := "tableMerges", fn := fun _ => fun
  | [d1, d2] => { results := [.lit (.bool false)], args := [d1, d2] }
  | _ => none }
def TableMergesWrongFalsely : Prop := tableMergesRow.holds Try.pinned (OpenSpec.ofChange tableMergesWrong)

/-- 'cracknellaw14.TableThree': WHATEVER THE INPUT: true; the input reads as it did. -/
def tableThreeSpec : ChangeSpec := { name := "tableThree", fn := fun _ => fun
  | [d1, d2, d3] => { results := [.lit (.bool true)], args := [d1, d2, d3] }
  | _ => none }
def tableThreeRow : OpenClaim := { program := "ytmpccjkdfdgedaa", sum := "d0a59d3c16b806895133a7a6e9a06e8786d41b5cd1cc988517c7c211aa1c480c", func := "cracknel/cracknellaw14.TableThree", spec := "tableThree", unfollowed := true, recurses := true, apart := false }
def TableThreeSaid : Prop := tableThreeRow.holds Try.pinned (OpenSpec.ofChange tableThreeSpec)

/-- ITS FALSE NEIGHBOUR: 'it returns false'. Refute it at one input. -/
def tableThreeWrong : ChangeSpec := { name := "tableThree", fn := fun _ => fun
  | [d1, d2, d3] => { results := [.lit (.bool false)], args := [d1, d2, d3] }
  | _ => none }
def TableThreeWrongFalsely : Prop := tableThreeRow.holds Try.pinned (OpenSpec.ofChange tableThreeWrong)

/-- 'cracknellaw14.TableStops': WHATEVER THE INPUT: true; the input reads as it did. -/
def tableStopsSpec : ChangeSpec := { name := "tableStops", fn := fun _ => fun
  | [d1, d2] => { results := [.lit (.bool true)], args := [d1, d2] }
  | _ => none }
def tableStopsRow : OpenClaim := { program := "ytmpccjkdfdgedaa", sum := "d0a59d3c16b806895133a7a6e9a06e8786d41b5cd1cc988517c7c211aa1c480c", func := "cracknel/cracknellaw14.TableStops", spec := "tableStops", unfollowed := true, recurses := true, apart := false }
def TableStopsSaid : Prop := tableStopsRow.holds Try.pinned (OpenSpec.ofChange tableStopsSpec)

/-- ITS FALSE NEIGHBOUR: 'it returns false'. Refute it at one input. -/
def tableStopsWrong : ChangeSpec := { name := "tableStops", fn := fun _ => fun
  | [d1, d2] => { results := [.lit (.bool false)], args := [d1, d2] }
  | _ => none }
def TableStopsWrongFalsely : Prop := tableStopsRow.holds Try.pinned (OpenSpec.ofChange tableStopsWrong)

/- THE SECOND FORM. 'bulk': how many values and letters a reading holds, each counted each time it is reached (what is shared counts as often as it is met; a slice's spare places count too). A statement '..UptoSaid' is the law's where the arguments, and the package variables that the reading takes, are together of bulk at most 1048576: NARROWER than '..Said'. Prove '..Said' where nothing that the law and all that it calls make is longer than what came in: it says more and counts as full. Else prove '..UptoSaid'. A law counts once. -/
mutual
def uptoBulk {H : Type} : DataW H → Nat
  | .lit (.string bytes) => bytes.length + 1
  | .lit _ => 1
  | .nil => 1
  | .ptr d => uptoBulk d + 1
  | .slice elems spare => uptoBulkAll elems + uptoBulkAll spare + 1
  | .agg parts => uptoBulkAll parts + 1
  | .iface _ d => uptoBulk d + 1
  | .map entries => uptoBulkEntries entries + 1
  | .held _ => 1
def uptoBulkAll {H : Type} : List (DataW H) → Nat
  | [] => 0
  | d :: r => uptoBulk d + uptoBulkAll r
def uptoBulkEntries {H : Type} : List (Lit × DataW H) → Nat
  | [] => 0
  | x :: r => uptoBulkEntry x + uptoBulkEntries r
def uptoBulkEntry {H : Type} : Lit × DataW H → Nat
  | (.string bytes, d) => bytes.length + uptoBulk d + 1
  | (_, d) => uptoBulk d + 1
 end
def uptoSmall : (H : Type) → List (DataW H) → Bool := fun _ ds => decide (uptoBulkAll ds ≤ 1048576)
def OpenSpec.upto (s : _root_.Go.ChangeSpec) : _root_.Go.OpenSpec := { _root_.Go.OpenSpec.ofChange s with cond := some uptoSmall }

/-- 'cracknellaw14.TableAll', WHERE WHAT IT READS IS OF BULK AT MOST 1048576: true; the input reads as it did. -/
def tableAllUptoRow : OpenClaim := { program := "ytmpccjkdfdgedaa", sum := "d0a59d3c16b806895133a7a6e9a06e8786d41b5cd1cc988517c7c211aa1c480c", func := "cracknel/cracknellaw14.TableAll", spec := "tableAll", unfollowed := true, recurses := true, apart := false, narrowed := true }
def TableAllUptoSaid : Prop := tableAllUptoRow.holds Try.pinned (OpenSpec.upto tableAllSpec)

/-- 'cracknellaw14.TableGets', WHERE WHAT IT READS IS OF BULK AT MOST 1048576: true; the input reads as it did. -/
def tableGetsUptoRow : OpenClaim := { program := "ytmpccjkdfdgedaa", sum := "d0a59d3c16b806895133a7a6e9a06e8786d41b5cd1cc988517c7c211aa1c480c", func := "cracknel/cracknellaw14.TableGets", spec := "tableGets", unfollowed := true, recurses := true, apart := false, narrowed := true }
def TableGetsUptoSaid : Prop := tableGetsUptoRow.holds Try.pinned (OpenSpec.upto tableGetsSpec)

/-- 'cracknellaw14.TableOwn', WHERE WHAT IT READS IS OF BULK AT MOST 1048576: true; the input reads as it did. -/
def tableOwnUptoRow : OpenClaim := { program := "ytmpccjkdfdgedaa", sum := "d0a59d3c16b806895133a7a6e9a06e8786d41b5cd1cc988517c7c211aa1c480c", func := "cracknel/cracknellaw14.TableOwn", spec := "tableOwn", unfollowed := true, recurses := true, apart := false, narrowed := true }
def TableOwnUptoSaid : Prop := tableOwnUptoRow.holds Try.pinned (OpenSpec.upto tableOwnSpec)

/-- 'cracknellaw14.TableMerges', WHERE WHAT IT READS IS OF BULK AT MOST 1048576: true; the input reads as it did. -/
def tableMergesUptoRow : OpenClaim := { program := "ytmpccjkdfdgedaa", sum := "d0a59d3c16b806895133a7a6e9a06e8786d41b5cd1cc988517c7c211aa1c480c", func := "cracknel/cracknellaw14.TableMerges", spec := "tableMerges", unfollowed := true, recurses := true, apart := false, narrowed := true }
def TableMergesUptoSaid : Prop := tableMergesUptoRow.holds Try.pinned (OpenSpec.upto tableMergesSpec)

/-- 'cracknellaw14.TableThree', WHERE WHAT IT READS IS OF BULK AT MOST 1048576: true; the input reads as it did. -/
def tableThreeUptoRow : OpenClaim := { program := "ytmpccjkdfdgedaa", sum := "d0a59d3c16b806895133a7a6e9a06e8786d41b5cd1cc988517c7c211aa1c480c", func := "cracknel/cracknellaw14.TableThree", spec := "tableThree", unfollowed := true, recurses := true, apart := false, narrowed := true }
def TableThreeUptoSaid : Prop := tableThreeUptoRow.holds Try.pinned (OpenSpec.upto tableThreeSpec)

/-- 'cracknellaw14.TableStops', WHERE WHAT IT READS IS OF BULK AT MOST 1048576: true; the input reads as it did. -/
def tableStopsUptoRow : OpenClaim := { program := "ytmpccjkdfdgedaa", sum := "d0a59d3c16b806895133a7a6e9a06e8786d41b5cd1cc988517c7c211aa1c480c", func := "cracknel/cracknellaw14.TableStops", spec := "tableStops", unfollowed := true, recurses := true, apart := false, narrowed := true }
def TableStopsUptoSaid : Prop := tableStopsUptoRow.holds Try.pinned (OpenSpec.upto tableStopsSpec)

end Rows
end Go.Proofs.Ytmpccjkdfdgedaa
