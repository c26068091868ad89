/- Printed by a program of this claim's session (xprint.py): the machine's side: each Go function as a Lean function, and that a call of it comes to what that tells; the row of a statement. No condition. -/
import Derived.Test.YtlnpphagcmhojaaProg
import Derived.Below
import Derived.Deep.Draws
import Derived.Deep.AppendLies
import Derived.Maps.AppendAt
import Derived.OwnWalk
import Derived.Laws.BytesArg
import Derived.Laws.MakeOwn
import Derived.Laws.OwnMore
import Derived.Deep.OwnRows
import Derived.Tactics
import Derived.Lib.ConvBytes
import Derived.Laws.Slices
import Derived.WalkKit
import Derived.KernelRfl
import Derived.RowKit3
import Derived.Deep.LoopGhost
import Derived.Deep.QuietTactic
import Derived.BigQuiet
import Derived.WideLaws
import Derived.Deep.DeepCutAuto
import Derived.Deep.CutBlock
import Derived.Deep.RegionHeld3
import Derived.Laws.Rows
import Derived.Lib.AppendStr
import Derived.ArgAppend
import Derived.Laws.IdiomCopy
import Derived.OrdersHeld
import Derived.Laws.BitsLemmas
import Derived.RowKit
import Derived.WalkMore
import Derived.Scope
import Derived.Test.YtlnpphagcmhojaaWWords
import Derived.Test.YtlnpphagcmhojaaWLast
import Derived.Test.YtlnpphagcmhojaaWTab
import Derived.Test.YtlnpphagcmhojaaWFour
import Derived.Test.YtlnpphagcmhojaaWQPut
import Derived.Test.YtlnpphagcmhojaaWApart
import Derived.Test.YtlnpphagcmhojaaWArr
import Derived.Test.YtlnpphagcmhojaaWZeros
import Derived.Test.YtlnpphagcmhojaaWFoot
import Derived.Test.YtlnpphagcmhojaaWKept
import Derived.Test.YtlnpphagcmhojaaWShare
import Derived.Test.YtlnpphagcmhojaaWN
import Derived.Test.YtlnpphagcmhojaaWFootNe
import Derived.Test.YtlnpphagcmhojaaWAt
import Derived.Test.YtlnpphagcmhojaaWEqStruct
import Derived.Test.YtlnpphagcmhojaaWRepsOne
import Derived.Test.YtlnpphagcmhojaaWInv
import Derived.Test.YtlnpphagcmhojaaWInvWords
import Derived.Test.YtlnpphagcmhojaaWGuard
import Derived.Test.YtlnpphagcmhojaaWNEv
import Derived.Test.YtlnpphagcmhojaaWMore
namespace Go.Proofs.Ytlnpphagcmhojaa.Print
open Go.RowKit Go.Proofs.YtlnpphagcmhojaaW.PrintWords Go.Proofs.YtlnpphagcmhojaaW.PrintLast Go.Proofs.YtlnpphagcmhojaaW.PrintMore
attribute [local go_sem] max2_int min2_int max_two min_two max_three min_three max_four min_four   -- for this text's walks alone
set_option linter.unusedVariables false
set_option linter.unusedSimpArgs false



def errW : Option Int → Value
  | none => .nilIface
  | some c => .iface 0 (.int .i64 c)
theorem xw_u64 (n : Int) : IntKind.u64.wrap n = n % 18446744073709551616 := by simp [IntKind.wrap, IntKind.bits, IntKind.signed]
theorem xw_u32 (n : Int) : IntKind.u32.wrap n = n % 4294967296 := by simp [IntKind.wrap, IntKind.bits, IntKind.signed]
theorem xw_u8 (n : Int) : IntKind.u8.wrap n = n % 256 := by simp [IntKind.wrap, IntKind.bits, IntKind.signed]
theorem errW_none : errW none = .nilIface := rfl
theorem errW_some (c : Int) : errW (some c) = .iface 0 (.int .i64 c) := rfl

theorem info5 : (Try.prog.info? 5).map (fun i => (i.zero, i.size, i.bytes)) = some (some (.int .u8 0), 1, 1) := by kernel_rfl
-- the values' own types

end Go.Proofs.Ytlnpphagcmhojaa.Print
