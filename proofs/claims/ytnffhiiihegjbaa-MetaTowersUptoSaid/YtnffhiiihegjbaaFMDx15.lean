/- Part of the walk: lemmas and printed functions that the claim uses (wip/tools/trim.py). -/
import Derived.Test.YtnffhiiihegjbaaFMDx0
import Derived.Test.YtnffhiiihegjbaaFMDx1
import Derived.Test.YtnffhiiihegjbaaFMDx6
import Derived.Test.YtnffhiiihegjbaaFMDx8
import Derived.Test.YtnffhiiihegjbaaFMDx10
import Derived.Test.YtnffhiiihegjbaaFMDx12
import Derived.Test.YtnffhiiihegjbaaFMDx14
namespace Go.Proofs.Ytnffhiiihegjbaa.MD
open Go.RowKit Go.Proofs.YtnffhiiihegjbaaW.PrintWords Go.Proofs.YtnffhiiihegjbaaW.PrintLast Go.Proofs.YtnffhiiihegjbaaW.PrintMore
attribute [local go_sem] max2_int min2_int max_two min_two max_three min_three max_four min_four
set_option linter.unusedVariables false
set_option linter.unusedSimpArgs false
mutual
def chiasmuslaw09_starred.l0 : Nat → List (S44) → Int → Option (Bool)
  | 0, _, _ => none
  | k + 1, x0, x3 => if x3 < (x0.length : Int) then (if 0 ≤ x3 then (if ((rd_T44 x0 x3).f0) = 1 then (if ((rd_T44 x0 x3).f1).toList = ([42] : List UInt8) then (some true) else ((chiasmuslaw09_starred.f k ((rd_T44 x0 x3).f2)).bind fun t351 => (if t351 = true then (some true) else (chiasmuslaw09_starred.l0 k x0 (wrap64 (x3 + 1)))))) else ((chiasmuslaw09_starred.f k ((rd_T44 x0 x3).f2)).bind fun t353 => (if t353 = true then (some true) else (chiasmuslaw09_starred.l0 k x0 (wrap64 (x3 + 1)))))) else (none)) else (some false)
def chiasmuslaw09_starred.f : Nat → List (S44) → Option (Bool)
  | 0, _ => none
  | k + 1, l0 => chiasmuslaw09_starred.l0 k l0 0
end
end Go.Proofs.Ytnffhiiihegjbaa.MD
