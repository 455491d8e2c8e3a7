/- Part of the walk: lemmas and printed functions that the claim uses (wip/tools/trim.py). -/
import Derived.Test.YtnffhiiihegjbaaEMDx0
import Derived.Test.YtnffhiiihegjbaaEMDx10
import Derived.Test.YtnffhiiihegjbaaEMDx11
namespace Go.Proofs.Ytnffhiiihegjbaa.MD
open Go.RowKit Go.Proofs.YtnffhiiihegjbaaW.PrintWords Go.Proofs.YtnffhiiihegjbaaW.PrintLast Go.Proofs.YtnffhiiihegjbaaW.PrintMore
attribute [local go_sem] max2_int min2_int max_two min_two max_three min_three max_four min_four
set_option linter.unusedVariables false
set_option linter.unusedSimpArgs false
mutual
def chiasmusref01_right.j0 : Nat → Bool → Int → ByteArray → List (S44) → Option (Bool)
  | 0, _, _, _, _ => none
  | k + 1, x16, x270000, x270001, x270002 => if x16 = true then (some false) else (if x270000 = 1 then (some ((x270001.size : Int) == 1)) else (if x270000 = 2 then ((chiasmusref01_IsWord.f k x270001).bind fun t270 => (some t270)) else (if x270000 = 3 then ((chiasmusref01_IsNumber.f k x270001).bind fun t271 => (some t271)) else (if x270000 = 4 then (some (x270001.toList == ([] : List UInt8))) else (if x270000 = 5 then (chiasmusref01_right.j1 k x270000 (x270000 == 5) x270000 x270001 x270002) else (if x270000 = 6 then (chiasmusref01_right.j1 k x270000 (x270000 == 6) x270000 x270001 x270002) else (chiasmusref01_right.j1 k x270000 (x270000 == 7) x270000 x270001 x270002)))))))
def chiasmusref01_right.j1 : Nat → Int → Bool → Int → ByteArray → List (S44) → Option (Bool)
  | 0, _, _, _, _, _ => none
  | k + 1, x18, x40, x270000, x270001, x270002 => if x40 = true then ((chiasmusref01_IsVar.f k x270001).bind fun t272 => (some t272)) else (if x18 = 8 then ((chiasmusref01_IsName.f k x270001 40).bind fun t273 => (some t273)) else (some false))
end
def chiasmusref01_right.f (k : Nat) (a0_0 : Int) (a0_1 : ByteArray) (l0_2 : List (S44)) : Option (Bool) := if a0_0 = 4 then (chiasmusref01_right.j0 k false a0_0 a0_1 l0_2) else (if a0_0 = 8 then (chiasmusref01_right.j0 k false a0_0 a0_1 l0_2) else (chiasmusref01_right.j0 k (decide ((l0_2.length : Int) > 0)) a0_0 a0_1 l0_2))
mutual
def chiasmusref01_form.l0 : Nat → List (S44) → Int → Int → Option (Bool)
  | 0, _, _, _ => none
  | k + 1, x0, x1, x5 => if x5 < (x0.length : Int) then (if 0 ≤ x5 then ((chiasmusref01_right.f k ((rd_T44 x0 x5).f0) ((rd_T44 x0 x5).f1) ((rd_T44 x0 x5).f2)).bind fun t275 => (if t275 = true then (if ((rd_T44 x0 x5).f0) > x1 then (some false) else ((chiasmusref01_form.f k ((rd_T44 x0 x5).f2) x1).bind fun t278 => (if t278 = true then (chiasmusref01_form.l0 k x0 x1 (wrap64 (x5 + 1))) else (some false)))) else (some false))) else (none)) else (some true)
def chiasmusref01_form.f : Nat → List (S44) → Int → Option (Bool)
  | 0, _, _ => none
  | k + 1, l0, a1 => chiasmusref01_form.l0 k l0 a1 0
end
def chiasmusref01_wrong.f (k : Nat) (l0 : List (S44)) (a1 : Int) : Option (Int) := (chiasmusref01_Size.f k l0).bind fun bt279 => (if bt279.1 > 4000 then (some 5) else (if bt279.2 > 100 then (some 6) else ((chiasmusref01_form.f k l0 a1).bind fun t281 => (if t281 = true then (some 0) else (some 2)))))
def chiasmusref01_Result.f (k : Nat) (l0 : List (S44)) : Option (Int) := (chiasmusref01_wrong.f k l0 8).bind fun t282 => (some t282)
def chiasmusref01_Value.f (k : Nat) (l0 : List (S44)) : Option (Int) := (chiasmusref01_wrong.f k l0 4).bind fun t283 => (some t283)
def chiasmusref09_char.f (a0 : ByteArray) : Option (Int × ByteArray × (List (S44))) := some (1, a0, ([] : List (S44)))
def chiasmusref09_letter.f (a0 : Int) : Option (ByteArray) := if a0 = 5 then (some (⟨#[83]⟩ : ByteArray)) else (if a0 = 6 then (some (⟨#[84]⟩ : ByteArray)) else (some (⟨#[69]⟩ : ByteArray)))
end Go.Proofs.Ytnffhiiihegjbaa.MD
