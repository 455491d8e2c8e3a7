/- Plain laws: the reference's comparison says equal just of the same expressions; different right expressions have different metacodes. -/
import Derived.Test.YtnffhiiihegjbaaDMDUpPlain
namespace Go.Proofs.Ytnffhiiihegjbaa.MD
open Go.RowKit Go.Proofs.YtnffhiiihegjbaaW.PrintWords Go.Proofs.YtnffhiiihegjbaaW.PrintLast Go.Proofs.YtnffhiiihegjbaaW.PrintMore Go.Proofs.Ytnffhiiihegjbaa.Evs
set_option linter.unusedVariables false
set_option linter.unusedSimpArgs false
end Go.Proofs.Ytnffhiiihegjbaa.MD
