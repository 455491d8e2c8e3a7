/- Part of the walk: lemmas and printed functions that the claim uses (wip/tools/trim.py). -/
import Derived.Test.YtnffhiiihegjbaaFMDx0
namespace Go.Proofs.Ytnffhiiihegjbaa.MD
open Go.RowKit Go.Proofs.YtnffhiiihegjbaaW.PrintWords Go.Proofs.YtnffhiiihegjbaaW.PrintLast Go.Proofs.YtnffhiiihegjbaaW.PrintMore
attribute [local go_sem] max2_int min2_int max_two min_two max_three min_three max_four min_four
set_option linter.unusedVariables false
set_option linter.unusedSimpArgs false
def chiasmusref09_is.f (a0_0 : Int) (a0_1 : ByteArray) (l0_2 : List (S44)) (a1 : ByteArray) : Option (Bool) := if a0_0 = 1 then (some (a0_1.toList == a1.toList)) else (some false)
end Go.Proofs.Ytnffhiiihegjbaa.MD
