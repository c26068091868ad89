/- Printed by a program of this claim's session (xprint.py): the machine's side: each Go function as a Lean function, and that a call of it comes to what that tells; the row of a statement. No condition. -/
import Derived.Test.YtcblmcehbjlmfaaDoorPrint0
import Derived.Test.YtcblmcehbjlmfaaDoorPrint1
import Derived.Test.YtcblmcehbjlmfaaDoorPrint2
import Derived.Test.YtcblmcehbjlmfaaDoorPrint3
import Derived.Test.YtcblmcehbjlmfaaDoorPrint5
import Derived.Test.YtcblmcehbjlmfaaDoorPrint7
import Derived.Test.YtcblmcehbjlmfaaDoorPrint9
namespace Go.Proofs.YtcblmcehbjlmfaaDoor.Print
open Go.RowKit Go.Proofs.YtcblmcehbjlmfaaDoorW.PrintWords Go.Proofs.YtcblmcehbjlmfaaDoorW.PrintLast Go.Proofs.YtcblmcehbjlmfaaDoorW.PrintMore
attribute [local go_sem] max2_int min2_int max_two min_two max_three min_three max_four min_four   -- for this text's walks alone
set_option linter.unusedVariables false
set_option linter.unusedSimpArgs false

end Go.Proofs.YtcblmcehbjlmfaaDoor.Print
