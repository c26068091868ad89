/- Printed by a program of this claim's session (xprint.py): the machine's side: each Go function as a Lean function, and that a call of it comes to what that tells; the row of a statement. No condition. -/
import Derived.Test.YtcblmcehbjlmfaaDoorProg
import Derived.Below
import Derived.Deep.Draws
import Derived.Deep.AppendLies
import Derived.Maps.AppendAt
import Derived.OwnWalk
import Derived.Laws.BytesArg
import Derived.Laws.MakeOwn
import Derived.Laws.OwnMore
import Derived.Deep.OwnRows
import Derived.Tactics
import Derived.Lib.ConvBytes
import Derived.Laws.Slices
import Derived.WalkKit
import Derived.KernelRfl
import Derived.RowKit3
import Derived.Deep.LoopGhost
import Derived.Deep.QuietTactic
import Derived.BigQuiet
import Derived.WideLaws
import Derived.Deep.DeepCutAuto
import Derived.Deep.CutBlock
import Derived.Deep.RegionHeld3
import Derived.Laws.Rows
import Derived.Lib.AppendStr
import Derived.ArgAppend
import Derived.Laws.IdiomCopy
import Derived.OrdersHeld
import Derived.Laws.BitsLemmas
import Derived.RowKit
import Derived.WalkMore
import Derived.Scope
import Derived.Test.YtcblmcehbjlmfaaDoorGdec
import Derived.Test.YtcblmcehbjlmfaaDoorGhost
import Derived.Test.YtcblmcehbjlmfaaDoorWWords
import Derived.Test.YtcblmcehbjlmfaaDoorWLast
import Derived.Test.YtcblmcehbjlmfaaDoorWTab
import Derived.Test.YtcblmcehbjlmfaaDoorWFour
import Derived.Test.YtcblmcehbjlmfaaDoorWQPut
import Derived.Test.YtcblmcehbjlmfaaDoorWApart
import Derived.Test.YtcblmcehbjlmfaaDoorWArr
import Derived.Test.YtcblmcehbjlmfaaDoorWZeros
import Derived.Test.YtcblmcehbjlmfaaDoorWFoot
import Derived.Test.YtcblmcehbjlmfaaDoorWKept
import Derived.Test.YtcblmcehbjlmfaaDoorWShare
import Derived.Test.YtcblmcehbjlmfaaDoorWN
import Derived.Test.YtcblmcehbjlmfaaDoorWFootNe
import Derived.Test.YtcblmcehbjlmfaaDoorWAt
import Derived.Test.YtcblmcehbjlmfaaDoorWEqStruct
import Derived.Test.YtcblmcehbjlmfaaDoorWRepsOne
import Derived.Test.YtcblmcehbjlmfaaDoorWInv
import Derived.Test.YtcblmcehbjlmfaaDoorWInvWords
import Derived.Test.YtcblmcehbjlmfaaDoorWGuard
import Derived.Test.YtcblmcehbjlmfaaDoorWNEv
import Derived.Test.YtcblmcehbjlmfaaDoorWMore
namespace Go.Proofs.YtcblmcehbjlmfaaDoor.Print
open Go.RowKit Go.Proofs.YtcblmcehbjlmfaaDoorW.PrintWords Go.Proofs.YtcblmcehbjlmfaaDoorW.PrintLast Go.Proofs.YtcblmcehbjlmfaaDoorW.PrintMore
attribute [local go_sem] max2_int min2_int max_two min_two max_three min_three max_four min_four   -- for this text's walks alone
set_option linter.unusedVariables false
set_option linter.unusedSimpArgs false



def errW : Option Int → Value
  | none => .nilIface
  | some c => .iface 0 (.int .i64 c)
theorem xw_u64 (n : Int) : IntKind.u64.wrap n = n % 18446744073709551616 := by simp [IntKind.wrap, IntKind.bits, IntKind.signed]
theorem xw_u32 (n : Int) : IntKind.u32.wrap n = n % 4294967296 := by simp [IntKind.wrap, IntKind.bits, IntKind.signed]
theorem xw_u8 (n : Int) : IntKind.u8.wrap n = n % 256 := by simp [IntKind.wrap, IntKind.bits, IntKind.signed]
theorem errW_none : errW none = .nilIface := rfl
theorem errW_some (c : Int) : errW (some c) = .iface 0 (.int .i64 c) := rfl

theorem info5 : (Tryd.prog.info? 5).map (fun i => (i.zero, i.size, i.bytes)) = some (some (.int .u8 0), 1, 1) := by kernel_rfl
theorem info9 : (Tryd.prog.info? 9).map (fun i => (i.zero, i.size, i.bytes)) = some (some (.string ⟨#[]⟩), 1, 16) := by kernel_rfl
-- the values' own types
def rd_L1 (xs : List (List ByteArray)) (i : Int) : (List ByteArray) := xs.getD i.toNat ([] : List ByteArray)
theorem at_L1 {w : World} {A : Option Addr} {n : Nat} {xs : List (List ByteArray)} (h : Kd.C (Kd.slice 9 Kd.string) w A n xs) (i : Int) (h0 : 0 ≤ i) (h1 : i < n) : ∃ ad A0 c0, A = some ad ∧ w.cell? (ad.add i.toNat) = some (.slice A0 (rd_L1 xs i).length c0) ∧ (rd_L1 xs i).length ≤ c0 ∧ Kd.string.C w A0 (rd_L1 xs i).length (rd_L1 xs i) := by
  obtain ⟨ad, c, e, _, hK, hc0⟩ := Kd.C_get h ([] : List ByteArray) i h0 h1
  have hc : ∀ j u, c[j]? = some u → w.cell? (ad.add (i.toNat * 1 + j)) = some u := hc0
  obtain ⟨A0, c0, rfl, l0, g0⟩ := hK
  exact ⟨ad, A0, c0, e, by have hq := hc 0 _ rfl; rwa [Nat.mul_one, Nat.add_zero] at hq, l0, g0⟩

end Go.Proofs.YtcblmcehbjlmfaaDoor.Print
