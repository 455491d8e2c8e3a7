/- Part of the walk: lemmas and printed functions that the claim uses (wip/tools/trim.py). -/
import Derived.Test.YtdbjjaodkapikaaHTEx0
import Derived.Test.YtdbjjaodkapikaaHTEx11
namespace Go.Proofs.Ytdbjjaodkapikaa.TE
open Go.RowKit Go.Proofs.YtdbjjaodkapikaaW.PrintWords Go.Proofs.YtdbjjaodkapikaaW.PrintLast Go.Proofs.YtdbjjaodkapikaaW.PrintMore
attribute [local go_sem] max2_int min2_int max_two min_two max_three min_three max_four min_four
set_option linter.unusedVariables false
set_option linter.unusedSimpArgs false
mutual
def term_Compare.l0 : Nat → List (S42) → List (S42) → Int → Int → Option (Int)
  | 0, _, _, _, _ => none
  | k + 1, x0, x1, x11, x12 => if x12 < x11 then (if 0 ≤ x12 then (if x12 < (x0.length : Int) then (if x12 < (x1.length : Int) then (if ((rd_T42 x0 x12).f0) = ((rd_T42 x1 x12).f0) then (if ((rd_T42 x0 x12).f1).toList = ((rd_T42 x1 x12).f1).toList then ((term_Compare.f k ((rd_T42 x0 x12).f2) ((rd_T42 x1 x12).f2)).bind fun t268 => (if t268 = 0 then (term_Compare.l0 k x0 x1 x11 (wrap64 (x12 + 1))) else (some t268))) else ((cmp_Compare_string.f ((rd_T42 x0 x12).f1) ((rd_T42 x1 x12).f1)).bind fun t271 => (some t271))) else ((cmp_Compare_int.f ((rd_T42 x0 x12).f0) ((rd_T42 x1 x12).f0)).bind fun t274 => (some t274))) else (none)) else (none)) else (none)) else ((cmp_Compare_int.f (x0.length : Int) (x1.length : Int)).bind fun t261 => (some t261))
def term_Compare.f : Nat → List (S42) → List (S42) → Option (Int)
  | 0, _, _ => none
  | k + 1, l0, l1 => term_Compare.l0 k l0 l1 (mn (l0.length : Int) (l1.length : Int)) 0
end
end Go.Proofs.Ytdbjjaodkapikaa.TE
