/- Words that the printed texts of this claim use: those of the kit's print (as its print.sh writes them for a claim) that are used here, the others left out by a program of this session. No condition. -/
import Derived.Test.YtpcakfldmcfhlaaDoorWWords
namespace Go.Proofs.YtpcakfldmcfhlaaDoorW.PrintWords
open Go.RowKit
namespace Kd
end Kd
end Go.Proofs.YtpcakfldmcfhlaaDoorW.PrintWords
