/- SnapBursts: what was written of a jar is read, and with bits of it turned within thirty-two in a row it is not. -/
import Derived.Test.YtfggjdkccdkogaaGreatDoorYW
namespace Go.Proofs.YtfggjdkccdkogaaGreatDoor.Pure
open RowKit Print Ac Aq Aw Y
theorem SnapBursts:bN.Pure:=λz0 z1 l m _=>bF z0 z1 l m
end Go.Proofs.YtfggjdkccdkogaaGreatDoor.Pure
