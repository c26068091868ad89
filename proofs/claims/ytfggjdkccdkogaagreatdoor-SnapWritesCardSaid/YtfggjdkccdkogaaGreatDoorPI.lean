/- Printed by a program of this claim's session (xprint.py): the machine's side: each Go function as a Lean function, and that a call of it comes to what that tells; the row of a statement. No condition. -/
import Derived.Test.YtfggjdkccdkogaaGreatDoorPrint0
namespace Go.Proofs.YtfggjdkccdkogaaGreatDoor.Print
open RowKit Ac Aq Aw
attribute [local go_sem] DC DD DX DY Co Cq DI DJ
set_option linter.unusedVariables false
set_option linter.unusedSimpArgs false
theorem Yy (d:Nat) (w:World) (x0 y0:ByteArray) (x1 y1:ByteArray) (x2 y2:ByteArray):
 (Op.equalIn (d+2) 94 (.agg #[.string x0, .string x1, .string x2]) (.agg #[.string y0, .string y1, .string y2])).run Tryz.prog w= .ok (x0.toList==y0.toList&&(x1.toList==y1.toList&&(x2.toList==y2.toList))) w:=by
 refine Mv Tryz.underlying94 (by kernel_rfl) ?_;refine Dx (by rfl) (by go_simp;rfl) (by go_simp;rfl) (by go_simp) ?_;refine Dx (by rfl) (by go_simp;rfl) (by go_simp;rfl) (by go_simp) ?_;exact Ji (by rfl) (by go_simp;rfl) (by go_simp;rfl) (by go_simp)
end Go.Proofs.YtfggjdkccdkogaaGreatDoor.Print
