/- Part of the walk: lemmas and printed functions that the claim uses (wip/tools/trim.py). -/
import Derived.Test.YtnffhiiihegjbaaFMDx0
import Derived.Test.YtnffhiiihegjbaaFMDx12
import Derived.Test.YtnffhiiihegjbaaFMDx13
namespace Go.Proofs.Ytnffhiiihegjbaa.MD
open Go.RowKit Go.Proofs.YtnffhiiihegjbaaW.PrintWords Go.Proofs.YtnffhiiihegjbaaW.PrintLast Go.Proofs.YtnffhiiihegjbaaW.PrintMore
attribute [local go_sem] max2_int min2_int max_two min_two max_three min_three max_four min_four
set_option linter.unusedVariables false
set_option linter.unusedSimpArgs false
mutual
def chiasmusref09_dn.l0 : Nat → List (S44) → List (S44) → Int → Option ((List (S44)) × Bool)
  | 0, _, _, _ => none
  | k + 1, x0, x4, x5 => if x5 < (x0.length : Int) then (if 0 ≤ x5 then (if ((rd_T44 x0 x5).f0) = 4 then ((chiasmusref09_dn.f k ((rd_T44 x0 x5).f2)).bind fun bt288 => (if bt288.2 = true then (if x4.length < 2932031007402 then (chiasmusref09_dn.l0 k x0 (x4 ++ [(⟨4, (⟨#[]⟩ : ByteArray), bt288.1⟩ : S44)]) (wrap64 (x5 + 1))) else (none)) else (some (([] : List (S44)), false)))) else ((chiasmusref09_is.f ((rd_T44 x0 x5).f0) ((rd_T44 x0 x5).f1) ((rd_T44 x0 x5).f2) (⟨#[42]⟩ : ByteArray)).bind fun t295 => (if t295 = true then (if (wrap64 (x5 + 1)) = (x0.length : Int) then (some (([] : List (S44)), false)) else (if 0 ≤ (wrap64 (x5 + 1)) then (if (wrap64 (x5 + 1)) < (x0.length : Int) then ((chiasmusref09_is.f ((rd_T44 x0 (wrap64 (x5 + 1))).f0) ((rd_T44 x0 (wrap64 (x5 + 1))).f1) ((rd_T44 x0 (wrap64 (x5 + 1))).f2) (⟨#[86]⟩ : ByteArray)).bind fun t301 => (if t301 = true then ((chiasmusref09_char.f (⟨#[42]⟩ : ByteArray)).bind fun bt302 => (if x4.length < 2932031007402 then (chiasmusref09_dn.l0 k x0 (x4 ++ [(⟨bt302.1, bt302.2.1, bt302.2.2⟩ : S44)]) (wrap64 ((wrap64 (x5 + 1)) + 1))) else (none))) else (if ((rd_T44 x0 (wrap64 (x5 + 1))).f0) = 4 then (if (((rd_T44 x0 (wrap64 (x5 + 1))).f2).length : Int) = 0 then (chiasmusref09_dn.j1 k x0 x4 (wrap64 (x5 + 1)) true ((rd_T44 x0 (wrap64 (x5 + 1))).f0) ((rd_T44 x0 (wrap64 (x5 + 1))).f1) ((rd_T44 x0 (wrap64 (x5 + 1))).f2)) else (if 0 < (((rd_T44 x0 (wrap64 (x5 + 1))).f2).length : Int) then (chiasmusref09_dn.j1 k x0 x4 (wrap64 (x5 + 1)) (((rd_T44 ((rd_T44 x0 (wrap64 (x5 + 1))).f2) 0).f0) != 2) ((rd_T44 x0 (wrap64 (x5 + 1))).f0) ((rd_T44 x0 (wrap64 (x5 + 1))).f1) ((rd_T44 x0 (wrap64 (x5 + 1))).f2)) else (none))) else (chiasmusref09_dn.l1 k x0 x4 (wrap64 (x5 + 1)) 0 5 ((rd_T44 x0 (wrap64 (x5 + 1))).f0) ((rd_T44 x0 (wrap64 (x5 + 1))).f1) ((rd_T44 x0 (wrap64 (x5 + 1))).f2))))) else (none)) else (none))) else (if x4.length < 2932031007402 then (chiasmusref09_dn.l0 k x0 (x4 ++ [(⟨(rd_T44 x0 x5).f0, (rd_T44 x0 x5).f1, ([] : List (S44))⟩ : S44)]) (wrap64 (x5 + 1))) else (none))))) else (none)) else (some (x4, true))
def chiasmusref09_dn.j1 : Nat → List (S44) → List (S44) → Int → Bool → Int → ByteArray → List (S44) → Option ((List (S44)) × Bool)
  | 0, _, _, _, _, _, _, _ => none
  | k + 1, x0, x4, x5, x81, x301000, x301001, x301002 => if x81 = true then (some (([] : List (S44)), false)) else (if 1 ≤ (x301002.length : Int) then ((chiasmusref09_dn.f k (x301002.drop 1)).bind fun bt315 => (if bt315.2 = true then (if 0 < (x301002.length : Int) then (if x4.length < 2932031007402 then (chiasmusref09_dn.l0 k x0 (x4 ++ [(⟨8, (rd_T44 x301002 0).f1, bt315.1⟩ : S44)]) (wrap64 (x5 + 1))) else (none)) else (none)) else (some (([] : List (S44)), false)))) else (none))
def chiasmusref09_dn.l1 : Nat → List (S44) → List (S44) → Int → Int → Int → Int → ByteArray → List (S44) → Option ((List (S44)) × Bool)
  | 0, _, _, _, _, _, _, _, _ => none
  | k + 1, x0, x4, x5, x12, x13, x301000, x301001, x301002 => if x13 ≤ 7 then ((chiasmusref09_letter.f x13).bind fun t328 => ((chiasmusref09_is.f x301000 x301001 x301002 t328).bind fun t329 => (if t329 = true then (chiasmusref09_dn.l1 k x0 x4 x5 x13 (wrap64 (x13 + 1)) x301000 x301001 x301002) else (chiasmusref09_dn.l1 k x0 x4 x5 x12 (wrap64 (x13 + 1)) x301000 x301001 x301002)))) else (if x12 = 0 then (some (([] : List (S44)), false)) else (if (wrap64 (x5 + 1)) = (x0.length : Int) then (some (([] : List (S44)), false)) else (if 0 ≤ (wrap64 (x5 + 1)) then (if (wrap64 (x5 + 1)) < (x0.length : Int) then (if ((rd_T44 x0 (wrap64 (x5 + 1))).f0) = 2 then (if x4.length < 2932031007402 then (chiasmusref09_dn.l0 k x0 (x4 ++ [(⟨x12, (rd_T44 x0 (wrap64 (x5 + 1))).f1, ([] : List (S44))⟩ : S44)]) (wrap64 ((wrap64 (x5 + 1)) + 1))) else (none)) else (some (([] : List (S44)), false))) else (none)) else (none))))
def chiasmusref09_dn.f : Nat → List (S44) → Option ((List (S44)) × Bool)
  | 0, _ => none
  | k + 1, l0 => chiasmusref09_dn.l0 k l0 ([] : List (S44)) 0
end
end Go.Proofs.Ytnffhiiihegjbaa.MD
