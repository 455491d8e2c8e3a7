/- Plain laws: the program's comparison and the reference's have one value, which is 0 just for the same expressions; twin is the expression. -/
import Derived.Test.YtjhjhhibbmligaaMTEPa
import Derived.Test.YtjhjhhibbmligaaMTEx15
namespace Go.Proofs.Ytjhjhhibbmligaa.TE
open Go.RowKit Go.Proofs.YtjhjhhibbmligaaW.PrintWords Go.Proofs.YtjhjhhibbmligaaW.PrintLast Go.Proofs.YtjhjhhibbmligaaW.PrintMore Go.Proofs.Ytjhjhhibbmligaa.Evs
set_option linter.unusedVariables false
set_option linter.unusedSimpArgs false
end Go.Proofs.Ytjhjhhibbmligaa.TE
