/- Several parts of the claim's proof in one text, said short by a program of this session. No condition. -/
import Derived.Test.YtfggjdkccdkogaaGreatDoorPrint0
section
namespace Go.Proofs.YtfggjdkccdkogaaGreatDoor.Print
open RowKit Ac Aq Aw
attribute [local go_sem] DC DD DX DY Co Cq DI DJ
set_option linter.unusedVariables false
set_option linter.unusedSimpArgs false
theorem Um (d:Nat) (w:World) (x0 y0:ByteArray) (x1 y1:ByteArray) (x2 y2:ByteArray) (x3 y3:ByteArray) (x4 y4:Int) (x5 y5:Int) (x6 y6:Int) (x7 y7:Bool) (x8 y8:Bool) (x9 y9:Bool) (x10 y10:Int):
 (Op.equalIn (d+2) 25 (.agg #[.string x0, .string x1, .string x2, .string x3, .int .i64 x4, .int .i64 x5, .int .i64 x6, .bool x7, .bool x8, .bool x9, .int .i64 x10]) (.agg #[.string y0, .string y1, .string y2, .string y3, .int .i64 y4, .int .i64 y5, .int .i64 y6, .bool y7, .bool y8, .bool y9, .int .i64 y10])).run Tryz.prog w= .ok (x0.toList==y0.toList&&(x1.toList==y1.toList&&(x2.toList==y2.toList&&(x3.toList==y3.toList&&(x4==y4&&(x5==y5&&(x6==y6&&(x7==y7&&(x8==y8&&(x9==y9&&(x10==y10))))))))))) w:=by
 refine Mv Tryz.underlying25 (by kernel_rfl) ?_;refine Dx (by rfl) (by go_simp;rfl) (by go_simp;rfl) (by go_simp) ?_;refine Dx (by rfl) (by go_simp;rfl) (by go_simp;rfl) (by go_simp) ?_;refine Dx (by rfl) (by go_simp;rfl) (by go_simp;rfl) (by go_simp) ?_;refine Dx (by rfl) (by go_simp;rfl) (by go_simp;rfl) (by go_simp) ?_;refine Dx (by rfl) (by go_simp;rfl) (by go_simp;rfl) (by go_simp) ?_;refine Dx (by rfl) (by go_simp;rfl) (by go_simp;rfl) (by go_simp) ?_;refine Dx (by rfl) (by go_simp;rfl) (by go_simp;rfl) (by go_simp) ?_;refine Dx (by rfl) (by go_simp;rfl) (by go_simp;rfl) (by go_simp) ?_;refine Dx (by rfl) (by go_simp;rfl) (by go_simp;rfl) (by go_simp) ?_;refine Dx (by rfl) (by go_simp;rfl) (by go_simp;rfl) (by go_simp) ?_;exact Ji (by rfl) (by go_simp;rfl) (by go_simp;rfl) (by go_simp)
end Go.Proofs.YtfggjdkccdkogaaGreatDoor.Print
end
section
namespace Go.Proofs.YtfggjdkccdkogaaGreatDoor.Print
open RowKit Ac Aq Aw
attribute [local go_sem] DC DD DX DY Co Cq DI DJ
set_option linter.unusedVariables false
set_option linter.unusedSimpArgs false
theorem Ur (d:Nat) (w:World) (x0 y0:ByteArray) (x1 y1:ByteArray) (x2 y2:ByteArray) (x3 y3:ByteArray) (x4 y4:Bool) (x5 y5:Bool) (x6 y6:Int) (x7 y7:Int):
 (Op.equalIn (d+2) 26 (.agg #[.string x0, .string x1, .string x2, .string x3, .bool x4, .bool x5, .int .i64 x6, .int .i64 x7]) (.agg #[.string y0, .string y1, .string y2, .string y3, .bool y4, .bool y5, .int .i64 y6, .int .i64 y7])).run Tryz.prog w= .ok (x0.toList==y0.toList&&(x1.toList==y1.toList&&(x2.toList==y2.toList&&(x3.toList==y3.toList&&(x4==y4&&(x5==y5&&(x6==y6&&(x7==y7)))))))) w:=by
 refine Mv Tryz.underlying26 (by kernel_rfl) ?_;refine Dx (by rfl) (by go_simp;rfl) (by go_simp;rfl) (by go_simp) ?_;refine Dx (by rfl) (by go_simp;rfl) (by go_simp;rfl) (by go_simp) ?_;refine Dx (by rfl) (by go_simp;rfl) (by go_simp;rfl) (by go_simp) ?_;refine Dx (by rfl) (by go_simp;rfl) (by go_simp;rfl) (by go_simp) ?_;refine Dx (by rfl) (by go_simp;rfl) (by go_simp;rfl) (by go_simp) ?_;refine Dx (by rfl) (by go_simp;rfl) (by go_simp;rfl) (by go_simp) ?_;refine Dx (by rfl) (by go_simp;rfl) (by go_simp;rfl) (by go_simp) ?_;exact Ji (by rfl) (by go_simp;rfl) (by go_simp;rfl) (by go_simp)
end Go.Proofs.YtfggjdkccdkogaaGreatDoor.Print
end
