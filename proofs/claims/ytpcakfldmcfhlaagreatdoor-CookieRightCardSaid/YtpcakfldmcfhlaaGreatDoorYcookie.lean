/- The sample that each statement of layer 13 begins with tells true. No condition. -/
import Derived.Test.YtpcakfldmcfhlaaGreatDoorYrank
import Derived.Test.YtpcakfldmcfhlaaGreatDoorPrint6
namespace Go.Proofs.YtpcakfldmcfhlaaGreatDoor.Y
set_option linter.unusedVariables false
set_option linter.unusedSimpArgs false
open Go.RowKit Go.Proofs.YtpcakfldmcfhlaaGreatDoor.Print Go.Proofs.YtpcakfldmcfhlaaGreatDoorW.PrintWords Go.Proofs.YtpcakfldmcfhlaaGreatDoorW.PrintLast Go.Proofs.YtpcakfldmcfhlaaGreatDoorW.PrintMore

theorem alive13_ev : Ev (fun k => cracknellaw13_alive.f k) true := ev_mono cracknellaw13_alive.mono 60 (by decide +kernel)
end Go.Proofs.YtpcakfldmcfhlaaGreatDoor.Y
