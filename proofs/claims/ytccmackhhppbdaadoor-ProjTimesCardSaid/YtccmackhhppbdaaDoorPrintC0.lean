/- Printed by a program of this claim's session (xprint.py): the machine's side: each Go function as a Lean function, and that a call of it comes to what that tells; the row of a statement. No condition. -/
import Derived.Test.YtccmackhhppbdaaDoorProg
import Derived.Below
import Derived.Deep.Draws
import Derived.Deep.AppendLies
import Derived.Maps.AppendAt
import Derived.OwnWalk
import Derived.Laws.BytesArg
import Derived.Laws.MakeOwn
import Derived.Laws.OwnMore
import Derived.Deep.OwnRows
import Derived.Tactics
import Derived.Lib.ConvBytes
import Derived.Laws.Slices
import Derived.WalkKit
import Derived.KernelRfl
import Derived.RowKit3
import Derived.Deep.LoopGhost
import Derived.Deep.QuietTactic
import Derived.BigQuiet
import Derived.WideLaws
import Derived.Deep.DeepCutAuto
import Derived.Deep.CutBlock
import Derived.Deep.RegionHeld3
import Derived.Laws.Rows
import Derived.Lib.AppendStr
import Derived.ArgAppend
import Derived.Laws.IdiomCopy
import Derived.OrdersHeld
import Derived.Laws.BitsLemmas
import Derived.RowKit
import Derived.WalkMore
import Derived.Scope
import Derived.Test.YtccmackhhppbdaaDoorWMore
namespace Go.Proofs.YtccmackhhppbdaaDoor.PrintC
open Go.RowKit Go.Proofs.YtccmackhhppbdaaDoorW.PrintWords Go.Proofs.YtccmackhhppbdaaDoorW.PrintLast Go.Proofs.YtccmackhhppbdaaDoorW.PrintMore
attribute [local go_sem] max2_int min2_int max_two min_two max_three min_three max_four min_four   -- for this text's walks alone
set_option linter.unusedVariables false
set_option linter.unusedSimpArgs false



def errW : Option Int → Value
  | none => .nilIface
  | some c => .iface 0 (.int .i64 c)
theorem xw_less (x : List UInt8) : ∀ y : List UInt8, (!(Op.bytesLess x y || x == y)) = Op.bytesLess y x := by
  induction x with
  | nil => intro y; cases y <;> simp [Op.bytesLess]
  | cons a x ih =>
    intro y
    cases y with
    | nil => simp [Op.bytesLess]
    | cons b y =>
      have h := ih y
      have e1 : (a == b) = decide (a.toNat = b.toNat) := by rw [Bool.eq_iff_iff, beq_iff_eq, decide_eq_true_iff, UInt8.toNat_inj]
      have e2 : (b == a) = decide (b.toNat = a.toNat) := by rw [Bool.eq_iff_iff, beq_iff_eq, decide_eq_true_iff, UInt8.toNat_inj]
      have l1 : decide (a < b) = decide (a.toNat < b.toNat) := by rw [Bool.eq_iff_iff, decide_eq_true_iff, decide_eq_true_iff, UInt8.lt_iff_toNat_lt]
      have l2 : decide (b < a) = decide (b.toNat < a.toNat) := by rw [Bool.eq_iff_iff, decide_eq_true_iff, decide_eq_true_iff, UInt8.lt_iff_toNat_lt]
      simp only [Op.bytesLess, List.cons_beq_cons, e1, e2, l1, l2]
      rw [← h]
      generalize Op.bytesLess x y = p
      generalize (x == y) = q
      rcases Nat.lt_trichotomy a.toNat b.toNat with t | t | t
      · rw [decide_eq_true t, decide_eq_false (show ¬ b.toNat < a.toNat by omega), decide_eq_false (show ¬ b.toNat = a.toNat by omega)]; simp
      · rw [decide_eq_false (show ¬ a.toNat < b.toNat by omega), decide_eq_false (show ¬ b.toNat < a.toNat by omega), decide_eq_true t, decide_eq_true t.symm]; cases p <;> cases q <;> rfl
      · rw [decide_eq_true t, decide_eq_false (show ¬ a.toNat < b.toNat by omega), decide_eq_false (show ¬ a.toNat = b.toNat by omega)]; simp
theorem xw_gtr {P : Program} (t : TypeId) (x y : ByteArray) (W : World) : (binOp .gtr t (.string x) (.string y)).run P W = .ok (.bool (Op.bytesLess y.toList x.toList)) W := by
  rw [show binOp .gtr t (.string x) (.string y) = pure (.bool !(Op.bytesLess x.toList y.toList || x.toList == y.toList)) by simp [binOp, Op.stringOp], xw_less]; rfl
theorem xw_leq {P : Program} (t : TypeId) (x y : ByteArray) (W : World) : (binOp .leq t (.string x) (.string y)).run P W = .ok (.bool (!Op.bytesLess y.toList x.toList)) W := by
  rw [show binOp .leq t (.string x) (.string y) = pure (.bool (Op.bytesLess x.toList y.toList || x.toList == y.toList)) by simp [binOp, Op.stringOp], ← xw_less x.toList y.toList, Bool.not_not]; rfl
theorem xw_geq {P : Program} (t : TypeId) (x y : ByteArray) (W : World) : (binOp .geq t (.string x) (.string y)).run P W = .ok (.bool (!Op.bytesLess x.toList y.toList)) W := by
  rw [show binOp .geq t (.string x) (.string y) = pure (.bool !(Op.bytesLess x.toList y.toList)) by simp [binOp, Op.stringOp]]; rfl
theorem xw_u64 (n : Int) : IntKind.u64.wrap n = n % 18446744073709551616 := by simp [IntKind.wrap, IntKind.bits, IntKind.signed]
theorem xw_u32 (n : Int) : IntKind.u32.wrap n = n % 4294967296 := by simp [IntKind.wrap, IntKind.bits, IntKind.signed]
theorem xw_u8 (n : Int) : IntKind.u8.wrap n = n % 256 := by simp [IntKind.wrap, IntKind.bits, IntKind.signed]
theorem blkF {w : World} {g b i : Nat} {o : Obj} (h : w.heap[g]? = some o) (hp : Aside0 (g ≠ b)) (u : Value) : (w.setCell ⟨b, i, none⟩ u).heap[g]? = some o := (Below.heap_setCell w ⟨b, i, none⟩ u g hp.out).trans h
theorem xk {P : Prop} (h : P := by (repeat (first | (with_reducible first | refine blk_drewN ?_ _ | refine blk_drew ?_ | refine blk_alloc ?_ _ | refine blkF ?_ (by with_reducible assumption) _ | apply blk_put))); (exact Aside0.out (by with_reducible assumption)); all_goals (first | (simp only [List.setIfInBounds_toArray, List.set_cons_zero, List.set_cons_succ]; done) | (simp only [List.setIfInBounds_toArray, List.set_cons_zero, List.set_cons_succ]; rfl) | rfl)) : P := h
theorem xb {P : Prop} (h : P := by repeat (first | (with_reducible first | exact HB.out | apply below_alloc | apply pw_below_drewN | apply below_drew1 | refine below_set ?_ (Aside0.out (by with_reducible assumption))) | exact HB.out)) : P := h
theorem xg {P : Prop} (h : P := by (try simp only [List.map_toArray, List.map_cons, List.map_nil]); first | done | rfl | (simp only [List.length_drop, List.length_take]; rfl) | ((try simp [Act.eval]) <;> (try simp only [xw_u64, xw_u32, xw_u8, wrap64, wrap32]) <;> omega)) : P := h
theorem blkC {w : World} {g i : Nat} {t : TypeId} {cs : Array Value} {v : Value} (h : w.heap[g]? = some (.cells cs t (0, 0))) (e : cs[i]? = some v) : w.cell? ⟨g, i, none⟩ = some v := (blk_cell h i).trans e
theorem xc {P : Prop} (h : P := by (repeat' apply And.intro) <;> (apply blkC; (repeat (with_reducible first | refine blk_drewN ?_ _ | refine blk_drew ?_ | refine blk_alloc ?_ _)); (exact Aside0.out (by with_reducible assumption)); rfl)) : P := h
theorem blkB {w0 w w1 : World} {g : Nat} {o : Obj} (_ : Aside0 (w0.heap[g]? = some o)) (hb : Below w.heap.size w w1) (h : w.heap[g]? = some o := by (repeat (first | (with_reducible first | refine blk_drewN ?_ _ | refine blk_drew ?_ | refine blk_alloc ?_ _ | refine blkF ?_ (by with_reducible assumption) _))); exact Aside0.out (by with_reducible assumption)) : Aside0 (w1.heap[g]? = some o) := ⟨blk_below h hb⟩
theorem blkL {w0 w : World} {g : Nat} {o : Obj} (_ : Aside0 (w0.heap[g]? = some o)) (h : w.heap[g]? = some o := by (repeat (first | (with_reducible first | refine blk_drewN ?_ _ | refine blk_drew ?_ | refine blk_alloc ?_ _ | refine blkF ?_ (by with_reducible assumption) _))); exact Aside0.out (by with_reducible assumption)) : g < w.heap.size := blk_lt h
theorem errW_none : errW none = .nilIface := rfl
theorem errW_some (c : Int) : errW (some c) = .iface 0 (.int .i64 c) := rfl

theorem info3 : (Tryd.prog.info? 3).map (fun i => (i.zero, i.size, i.bytes)) = some (some (.int .i64 0), 1, 8) := by kernel_rfl
-- the values' own types

end Go.Proofs.YtccmackhhppbdaaDoor.PrintC
