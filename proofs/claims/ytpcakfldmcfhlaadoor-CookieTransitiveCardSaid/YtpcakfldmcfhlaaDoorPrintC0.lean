/- Printed by a program of this claim's session (xprint.py): the machine's side: each Go function as a Lean function, and that a call of it comes to what that tells; the row of a statement. No condition. -/
import Derived.Test.YtpcakfldmcfhlaaDoorProg
import Derived.Below
import Derived.Deep.Draws
import Derived.Deep.AppendLies
import Derived.Maps.AppendAt
import Derived.OwnWalk
import Derived.Laws.BytesArg
import Derived.Laws.MakeOwn
import Derived.Laws.OwnMore
import Derived.Deep.OwnRows
import Derived.Tactics
import Derived.Lib.ConvBytes
import Derived.Laws.Slices
import Derived.WalkKit
import Derived.KernelRfl
import Derived.RowKit3
import Derived.Deep.LoopGhost
import Derived.Deep.QuietTactic
import Derived.BigQuiet
import Derived.WideLaws
import Derived.Deep.DeepCutAuto
import Derived.Deep.CutBlock
import Derived.Deep.RegionHeld3
import Derived.Laws.Rows
import Derived.Lib.AppendStr
import Derived.ArgAppend
import Derived.Laws.IdiomCopy
import Derived.OrdersHeld
import Derived.Laws.BitsLemmas
import Derived.RowKit
import Derived.WalkMore
import Derived.Scope
import Derived.Test.YtpcakfldmcfhlaaDoorWWords
import Derived.Test.YtpcakfldmcfhlaaDoorWLast
import Derived.Test.YtpcakfldmcfhlaaDoorWTab
import Derived.Test.YtpcakfldmcfhlaaDoorWFour
import Derived.Test.YtpcakfldmcfhlaaDoorWQPut
import Derived.Test.YtpcakfldmcfhlaaDoorWApart
import Derived.Test.YtpcakfldmcfhlaaDoorWArr
import Derived.Test.YtpcakfldmcfhlaaDoorWZeros
import Derived.Test.YtpcakfldmcfhlaaDoorWFoot
import Derived.Test.YtpcakfldmcfhlaaDoorWKept
import Derived.Test.YtpcakfldmcfhlaaDoorWShare
import Derived.Test.YtpcakfldmcfhlaaDoorWN
import Derived.Test.YtpcakfldmcfhlaaDoorWFootNe
import Derived.Test.YtpcakfldmcfhlaaDoorWAt
import Derived.Test.YtpcakfldmcfhlaaDoorWEqStruct
import Derived.Test.YtpcakfldmcfhlaaDoorWRepsOne
import Derived.Test.YtpcakfldmcfhlaaDoorWInv
import Derived.Test.YtpcakfldmcfhlaaDoorWInvWords
import Derived.Test.YtpcakfldmcfhlaaDoorWGuard
import Derived.Test.YtpcakfldmcfhlaaDoorWNEv
import Derived.Test.YtpcakfldmcfhlaaDoorWMore
namespace Go.Proofs.YtpcakfldmcfhlaaDoor.PrintC
open Go.RowKit Go.Proofs.YtpcakfldmcfhlaaDoorW.PrintWords Go.Proofs.YtpcakfldmcfhlaaDoorW.PrintLast Go.Proofs.YtpcakfldmcfhlaaDoorW.PrintMore
attribute [local go_sem] max2_int min2_int max_two min_two max_three min_three max_four min_four   -- for this text's walks alone
set_option linter.unusedVariables false
set_option linter.unusedSimpArgs false



def errW : Option Int → Value
  | none => .nilIface
  | some c => .iface 0 (.int .i64 c)
theorem xw_less (x : List UInt8) : ∀ y : List UInt8, (!(Op.bytesLess x y || x == y)) = Op.bytesLess y x := by
  induction x with
  | nil => intro y; cases y <;> simp [Op.bytesLess]
  | cons a x ih =>
    intro y
    cases y with
    | nil => simp [Op.bytesLess]
    | cons b y =>
      have h := ih y
      have e1 : (a == b) = decide (a.toNat = b.toNat) := by rw [Bool.eq_iff_iff, beq_iff_eq, decide_eq_true_iff, UInt8.toNat_inj]
      have e2 : (b == a) = decide (b.toNat = a.toNat) := by rw [Bool.eq_iff_iff, beq_iff_eq, decide_eq_true_iff, UInt8.toNat_inj]
      have l1 : decide (a < b) = decide (a.toNat < b.toNat) := by rw [Bool.eq_iff_iff, decide_eq_true_iff, decide_eq_true_iff, UInt8.lt_iff_toNat_lt]
      have l2 : decide (b < a) = decide (b.toNat < a.toNat) := by rw [Bool.eq_iff_iff, decide_eq_true_iff, decide_eq_true_iff, UInt8.lt_iff_toNat_lt]
      simp only [Op.bytesLess, List.cons_beq_cons, e1, e2, l1, l2]
      rw [← h]
      generalize Op.bytesLess x y = p
      generalize (x == y) = q
      rcases Nat.lt_trichotomy a.toNat b.toNat with t | t | t
      · rw [decide_eq_true t, decide_eq_false (show ¬ b.toNat < a.toNat by omega), decide_eq_false (show ¬ b.toNat = a.toNat by omega)]; simp
      · rw [decide_eq_false (show ¬ a.toNat < b.toNat by omega), decide_eq_false (show ¬ b.toNat < a.toNat by omega), decide_eq_true t, decide_eq_true t.symm]; cases p <;> cases q <;> rfl
      · rw [decide_eq_true t, decide_eq_false (show ¬ a.toNat < b.toNat by omega), decide_eq_false (show ¬ a.toNat = b.toNat by omega)]; simp
theorem xw_gtr {P : Program} (t : TypeId) (x y : ByteArray) (W : World) : (binOp .gtr t (.string x) (.string y)).run P W = .ok (.bool (Op.bytesLess y.toList x.toList)) W := by
  rw [show binOp .gtr t (.string x) (.string y) = pure (.bool !(Op.bytesLess x.toList y.toList || x.toList == y.toList)) by simp [binOp, Op.stringOp], xw_less]; rfl
theorem xw_leq {P : Program} (t : TypeId) (x y : ByteArray) (W : World) : (binOp .leq t (.string x) (.string y)).run P W = .ok (.bool (!Op.bytesLess y.toList x.toList)) W := by
  rw [show binOp .leq t (.string x) (.string y) = pure (.bool (Op.bytesLess x.toList y.toList || x.toList == y.toList)) by simp [binOp, Op.stringOp], ← xw_less x.toList y.toList, Bool.not_not]; rfl
theorem xw_geq {P : Program} (t : TypeId) (x y : ByteArray) (W : World) : (binOp .geq t (.string x) (.string y)).run P W = .ok (.bool (!Op.bytesLess x.toList y.toList)) W := by
  rw [show binOp .geq t (.string x) (.string y) = pure (.bool !(Op.bytesLess x.toList y.toList)) by simp [binOp, Op.stringOp]]; rfl
theorem xw_u64 (n : Int) : IntKind.u64.wrap n = n % 18446744073709551616 := by simp [IntKind.wrap, IntKind.bits, IntKind.signed]
theorem xw_u32 (n : Int) : IntKind.u32.wrap n = n % 4294967296 := by simp [IntKind.wrap, IntKind.bits, IntKind.signed]
theorem xw_u8 (n : Int) : IntKind.u8.wrap n = n % 256 := by simp [IntKind.wrap, IntKind.bits, IntKind.signed]
theorem errW_none : errW none = .nilIface := rfl
theorem errW_some (c : Int) : errW (some c) = .iface 0 (.int .i64 c) := rfl

theorem info3 : (Tryd.prog.info? 3).map (fun i => (i.zero, i.size, i.bytes)) = some (some (.int .i64 0), 1, 8) := by kernel_rfl
-- the values' own types

end Go.Proofs.YtpcakfldmcfhlaaDoor.PrintC
