/- The sample that each statement of layer 13 begins with tells true. No condition. -/
import Derived.Test.YtpcakfldmcfhlaaDoorYrank
import Derived.Test.YtpcakfldmcfhlaaDoorPrint6
namespace Go.Proofs.YtpcakfldmcfhlaaDoor.Y
set_option linter.unusedVariables false
set_option linter.unusedSimpArgs false
open Go.RowKit Go.Proofs.YtpcakfldmcfhlaaDoor.Print Go.Proofs.YtpcakfldmcfhlaaDoorW.PrintWords Go.Proofs.YtpcakfldmcfhlaaDoorW.PrintLast Go.Proofs.YtpcakfldmcfhlaaDoorW.PrintMore

theorem alive13_ev : Ev (fun k => cracknellaw13_alive.f k) true := ev_mono cracknellaw13_alive.mono 60 (by decide +kernel)
end Go.Proofs.YtpcakfldmcfhlaaDoor.Y
