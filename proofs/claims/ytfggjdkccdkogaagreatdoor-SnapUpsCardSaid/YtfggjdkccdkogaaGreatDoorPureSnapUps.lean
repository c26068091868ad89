/- SnapUps: what becomes of a row in the next version, and of a cookie in the one ahead, is the document's; there and back it is the same. -/
import Derived.Test.YtfggjdkccdkogaaGreatDoorPrint35
import Derived.Test.YtfggjdkccdkogaaGreatDoorYS
namespace Go.Proofs.YtfggjdkccdkogaaGreatDoor.Pure
open RowKit Print Ac Aq Aw Y
theorem SnapUps:Cn.Pure:=by
 unfold Cn.Pure;exact Ev.rounds Ez
end Go.Proofs.YtfggjdkccdkogaaGreatDoor.Pure
