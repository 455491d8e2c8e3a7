/- Part of the walk: lemmas and printed functions that the claim uses (wip/tools/trim.py). -/
import Derived.Test.YtnffhiiihegjbaaEMDx0
import Derived.Test.YtnffhiiihegjbaaEMDx10
namespace Go.Proofs.Ytnffhiiihegjbaa.MD
open Go.RowKit Go.Proofs.YtnffhiiihegjbaaW.PrintWords Go.Proofs.YtnffhiiihegjbaaW.PrintLast Go.Proofs.YtnffhiiihegjbaaW.PrintMore
attribute [local go_sem] max2_int min2_int max_two min_two max_three min_three max_four min_four
set_option linter.unusedVariables false
set_option linter.unusedSimpArgs false
def chiasmusref01_IsVar.l0 : Nat → ByteArray → Int → Option (Bool)
  | 0, _, _ => none
  | k + 1, x0, x3 => if x3 < (x0.size : Int) then (if 0 ≤ x3 then ((chiasmusref01_Letter.f (bt x0 x3)).bind fun t263 => (if t263 = true then (chiasmusref01_IsVar.l0 k x0 (wrap64 (x3 + 1))) else ((chiasmusref01_Digit.f (bt x0 x3)).bind fun t264 => (if t264 = true then (chiasmusref01_IsVar.l0 k x0 (wrap64 (x3 + 1))) else (some false))))) else (none)) else (if x0.toList = ([] : List UInt8) then (some false) else (some (decide ((x0.size : Int) ≤ 40))))
def chiasmusref01_IsVar.f (k : Nat) (a0 : ByteArray) : Option (Bool) := chiasmusref01_IsVar.l0 k a0 0
def chiasmusref01_Inner.f (a0 : Int) : Option (Bool) := (chiasmusref01_Letter.f a0).bind fun t265 => (if t265 = true then (some true) else ((chiasmusref01_Digit.f a0).bind fun t266 => (if t266 = true then (some true) else (if a0 = 45 then (some true) else (some (a0 == 95))))))
mutual
def chiasmusref01_IsName.j0 : Nat → ByteArray → Bool → Option (Bool)
  | 0, _, _ => none
  | k + 1, x0, x19 => if x19 = true then (some false) else (chiasmusref01_IsName.l0 k x0 0)
def chiasmusref01_IsName.l0 : Nat → ByteArray → Int → Option (Bool)
  | 0, _, _ => none
  | k + 1, x0, x5 => if x5 < (x0.size : Int) then (if 0 ≤ x5 then ((chiasmusref01_Inner.f (bt x0 x5)).bind fun t268 => (if t268 = true then (chiasmusref01_IsName.l0 k x0 (wrap64 (x5 + 1))) else (some false))) else (none)) else (some true)
end
def chiasmusref01_IsName.f (k : Nat) (a0 : ByteArray) (a1 : Int) : Option (Bool) := if a0.toList = ([] : List UInt8) then (chiasmusref01_IsName.j0 k a0 true) else (if (a0.size : Int) > a1 then (chiasmusref01_IsName.j0 k a0 true) else (if 0 < (a0.size : Int) then ((chiasmusref01_Letter.f (bt a0 0)).bind fun t267 => (chiasmusref01_IsName.j0 k a0 (!t267))) else (none)))
end Go.Proofs.Ytnffhiiihegjbaa.MD
