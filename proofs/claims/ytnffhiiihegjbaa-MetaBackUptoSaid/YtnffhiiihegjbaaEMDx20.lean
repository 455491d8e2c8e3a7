/- Part of the walk: lemmas and printed functions that the claim uses (wip/tools/trim.py). -/
import Derived.Test.YtnffhiiihegjbaaEMDx0
import Derived.Test.YtnffhiiihegjbaaEMDx8
import Derived.Test.YtnffhiiihegjbaaEMDx10
import Derived.Test.YtnffhiiihegjbaaEMDx12
import Derived.Test.YtnffhiiihegjbaaEMDx15
import Derived.Test.YtnffhiiihegjbaaEMDx16
import Derived.Test.YtnffhiiihegjbaaEMDx19
namespace Go.Proofs.Ytnffhiiihegjbaa.MD
open Go.RowKit Go.Proofs.YtnffhiiihegjbaaW.PrintWords Go.Proofs.YtnffhiiihegjbaaW.PrintLast Go.Proofs.YtnffhiiihegjbaaW.PrintMore
attribute [local go_sem] max2_int min2_int max_two min_two max_three min_three max_four min_four
set_option linter.unusedVariables false
set_option linter.unusedSimpArgs false
end Go.Proofs.Ytnffhiiihegjbaa.MD
