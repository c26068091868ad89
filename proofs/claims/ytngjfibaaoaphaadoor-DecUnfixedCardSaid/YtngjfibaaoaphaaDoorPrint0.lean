/- Printed by a program of this claim's session (xprint.py): the machine's side: each Go function as a Lean function, and that a call of it comes to what that tells; the row of a statement. No condition. -/
import Derived.Test.YtngjfibaaoaphaaDoorProg
import Derived.Below
import Derived.Deep.Draws
import Derived.Deep.AppendLies
import Derived.Maps.AppendAt
import Derived.OwnWalk
import Derived.Laws.BytesArg
import Derived.Laws.MakeOwn
import Derived.Laws.OwnMore
import Derived.Deep.OwnRows
import Derived.Tactics
import Derived.Lib.ConvBytes
import Derived.Laws.Slices
import Derived.WalkKit
import Derived.KernelRfl
import Derived.RowKit3
import Derived.Deep.LoopGhost
import Derived.Deep.QuietTactic
import Derived.BigQuiet
import Derived.WideLaws
import Derived.Deep.DeepCutAuto
import Derived.Deep.CutBlock
import Derived.Deep.RegionHeld3
import Derived.Laws.Rows
import Derived.Lib.AppendStr
import Derived.ArgAppend
import Derived.Laws.IdiomCopy
import Derived.OrdersHeld
import Derived.Laws.BitsLemmas
import Derived.RowKit
import Derived.WalkMore
import Derived.Scope
import Derived.Test.YtngjfibaaoaphaaDoorGdec
import Derived.Test.YtngjfibaaoaphaaDoorWWords
import Derived.Test.YtngjfibaaoaphaaDoorWLast
import Derived.Test.YtngjfibaaoaphaaDoorWTab
import Derived.Test.YtngjfibaaoaphaaDoorWFour
import Derived.Test.YtngjfibaaoaphaaDoorWQPut
import Derived.Test.YtngjfibaaoaphaaDoorWApart
import Derived.Test.YtngjfibaaoaphaaDoorWArr
import Derived.Test.YtngjfibaaoaphaaDoorWZeros
import Derived.Test.YtngjfibaaoaphaaDoorWFoot
import Derived.Test.YtngjfibaaoaphaaDoorWKept
import Derived.Test.YtngjfibaaoaphaaDoorWShare
import Derived.Test.YtngjfibaaoaphaaDoorWN
import Derived.Test.YtngjfibaaoaphaaDoorWFootNe
import Derived.Test.YtngjfibaaoaphaaDoorWAt
import Derived.Test.YtngjfibaaoaphaaDoorWEqStruct
import Derived.Test.YtngjfibaaoaphaaDoorWRepsOne
import Derived.Test.YtngjfibaaoaphaaDoorWInv
import Derived.Test.YtngjfibaaoaphaaDoorWInvWords
import Derived.Test.YtngjfibaaoaphaaDoorWGuard
import Derived.Test.YtngjfibaaoaphaaDoorWNEv
import Derived.Test.YtngjfibaaoaphaaDoorWMore
namespace Go.Proofs.YtngjfibaaoaphaaDoor.Print
open Go.RowKit Go.Proofs.YtngjfibaaoaphaaDoorW.PrintWords Go.Proofs.YtngjfibaaoaphaaDoorW.PrintLast Go.Proofs.YtngjfibaaoaphaaDoorW.PrintMore
attribute [local go_sem] max2_int min2_int max_two min_two max_three min_three max_four min_four   -- for this text's walks alone
set_option linter.unusedVariables false
set_option linter.unusedSimpArgs false



def errW : Option Int → Value
  | none => .nilIface
  | some c => .iface 0 (.int .i64 c)
theorem xw_u64 (n : Int) : IntKind.u64.wrap n = n % 18446744073709551616 := by simp [IntKind.wrap, IntKind.bits, IntKind.signed]
theorem xw_u32 (n : Int) : IntKind.u32.wrap n = n % 4294967296 := by simp [IntKind.wrap, IntKind.bits, IntKind.signed]
theorem xw_u8 (n : Int) : IntKind.u8.wrap n = n % 256 := by simp [IntKind.wrap, IntKind.bits, IntKind.signed]
theorem errW_none : errW none = .nilIface := rfl
theorem errW_some (c : Int) : errW (some c) = .iface 0 (.int .i64 c) := rfl

theorem info5 : (Tryd.prog.info? 5).map (fun i => (i.zero, i.size, i.bytes)) = some (some (.int .u8 0), 1, 1) := by kernel_rfl
-- the values' own types

end Go.Proofs.YtngjfibaaoaphaaDoor.Print
