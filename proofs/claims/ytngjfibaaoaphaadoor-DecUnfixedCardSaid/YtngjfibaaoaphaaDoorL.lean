/- What a row lists as laid gives the walks what they ask of the world (the power table and the two errors of strconv), and the program's own start meets it. -/
import Derived.Test.YtngjfibaaoaphaaDoorRows
import Derived.Test.YtngjfibaaoaphaaDoorTie
import Derived.Test.YtngjfibaaoaphaaDoorGdec
import Derived.ProofKit
import Derived.LaidMore
import Derived.LaidLaws
import Derived.OpenShut
import Derived.Stop.Joined
import Derived.Stop.LaidErr
import Derived.Lib.LaidTab
namespace Go.Proofs.YtngjfibaaoaphaaDoor.Print
set_option linter.unusedVariables false
set_option linter.unusedSimpArgs false
open Go.ChangeShapes Go.WideShapes Go.ChangeAt Go.RowKit

abbrev LaidL : List (String × DataW Unit) := Rows.decPrintsRow.laid
theorem var_iface {P : Program} {n nm : String} {d : DataW Unit} {r : List (String × DataW Unit)} {W : World} {g ti : Nat} {ms : Array (String × TypeId)} (h : laidMet P ((n, .iface nm d) :: r) W)
    (hg : P.globalNamed n = some g) (ht : (P.globals[g]?).map (·.type) = some ti) (hi : P.underlying ti = some (.interface ms)) : ∃ tp p, W.var? P n = some #[.iface tp p] := by
  obtain ⟨ps, ⟨g0, t0, cs0, f0, p0, q0, hg0, ht0, hv0, hd0, _, e0⟩, _, _⟩ := h
  obtain rfl := Option.some.inj (hg.symm.trans hg0)
  obtain rfl := Option.some.inj (ht.symm.trans ht0)
  obtain ⟨f1, u, v, hcs, _, _⟩ := iface_of_trod hi hd0
  refine ⟨u, v, ?_⟩
  rw [hv0]
  obtain ⟨l0⟩ := cs0
  simp only at hcs
  rw [hcs]
set_option maxRecDepth 100000 in
theorem laidG_of {W : World} (h : laidMetH Tryd.prog LaidL W) : LaidG W := by
  rw [MakeChecks.laidMetH_plain _ _ _ (by kernel_rfl)] at h
  have h2 := laidMet.tail (laidMet.tail h)
  have h3 := laidMet.tail h2
  have h4 := laidMet.tail h3
  refine ⟨?_, ?_, ?_⟩
  · have t := Lib.tabIs_of_head (k := .u64) (zs := Lib.pow10Tab) (g := 2) (by kernel_rfl) (by kernel_rfl) (n := 20) Tryd.underlying63 Tryd.underlying12 (by kernel_rfl) (by kernel_rfl) h2
    exact Eq.mp (congrArg (fun z => Lib.TabIs Tryd.prog W z .u64 Lib.pow10Tab) (by kernel_rfl)) t
  · have t := var_iface h4 (g := 0) (by kernel_rfl) (by kernel_rfl) Tryd.underlying32
    obtain ⟨tp, p, hv⟩ := t
    exact ⟨tp, p, Eq.mp (congrArg (fun z => W.var? Tryd.prog z = some #[.iface tp p]) (by kernel_rfl)) hv⟩
  · have t := var_iface h3 (g := 1) (by kernel_rfl) (by kernel_rfl) Tryd.underlying32
    obtain ⟨tp, p, hv⟩ := t
    exact ⟨tp, p, Eq.mp (congrArg (fun z => W.var? Tryd.prog z = some #[.iface tp p]) (by kernel_rfl)) hv⟩
/-- The program's own start meets it. -/
theorem door_met (os : Os) (args : Array Value) : laidMetH Tryd.prog LaidL ((World.doorLaid Tryd.prog 62 os).forCall (fun _ _ => 0) ⟨#[], args, []⟩).memory :=
  laidMetH_of_parts3 (fuel := 8) (laidMet_of_run' 8 (by kernel_rfl) (by kernel_rfl)) (by kernel_rfl) (by kernel_rfl)
end Go.Proofs.YtngjfibaaoaphaaDoor.Print
