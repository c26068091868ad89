/- Printed by a program of this claim's session (xprint.py): the machine's side: each Go function as a Lean function, and that a call of it comes to what that tells; the row of a statement. No condition. -/
import Derived.Test.YtfggjdkccdkogaaGreatDoorPH
namespace Go.Proofs.YtfggjdkccdkogaaGreatDoor.Print
open RowKit Ac Aq Aw
attribute [local go_sem] DC DD DX DY Co Cq DI DJ
set_option linter.unusedVariables false
set_option linter.unusedSimpArgs false
theorem Yv (d:Nat) (w:World) (x0 y0:ByteArray) (x1 y1:ByteArray) (x2 y2:ByteArray) (x3 y3:ByteArray) (x4 y4:Bool) (x5 y5:Bool) (x6 y6:Int) (x7 y7:Int) (x8 y8:Bool) (x9 y9:Int):
 (Op.equalIn (d+3) 28 (.agg #[.string x0, .string x1, .string x2, .string x3, .bool x4, .bool x5, .int .i64 x6, .int .i64 x7, .bool x8, .int .i64 x9]) (.agg #[.string y0, .string y1, .string y2, .string y3, .bool y4, .bool y5, .int .i64 y6, .int .i64 y7, .bool y8, .int .i64 y9])).run Tryz.prog w= .ok ((x0.toList==y0.toList&&(x1.toList==y1.toList&&(x2.toList==y2.toList&&(x3.toList==y3.toList&&(x4==y4&&(x5==y5&&(x6==y6&&(x7==y7))))))))&&(x8==y8&&(x9==y9))) w:=by
 refine Mv Tryz.underlying28 (by kernel_rfl) ?_;refine Dx (by rfl) (by go_simp) (by go_simp) (Ur (d+0) w _ _ _ _ _ _ _ _ _ _ _ _ _ _ _ _) ?_;refine Dx (by rfl) (by go_simp;rfl) (by go_simp;rfl) (by go_simp) ?_;exact Ji (by rfl) (by go_simp;rfl) (by go_simp;rfl) (by go_simp)
end Go.Proofs.YtfggjdkccdkogaaGreatDoor.Print
