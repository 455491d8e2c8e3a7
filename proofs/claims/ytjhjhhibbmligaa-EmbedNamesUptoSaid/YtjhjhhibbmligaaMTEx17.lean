/- Part of the walk: lemmas and printed functions that the claim uses (wip/tools/trim.py). -/
import Derived.Test.YtjhjhhibbmligaaMTEx0
import Derived.Test.YtjhjhhibbmligaaMTEx11
import Derived.Test.YtjhjhhibbmligaaMTEx15
section
namespace Go.Proofs.Ytjhjhhibbmligaa.TE
open Go.RowKit Go.Proofs.YtjhjhhibbmligaaW.PrintWords Go.Proofs.YtjhjhhibbmligaaW.PrintLast Go.Proofs.YtjhjhhibbmligaaW.PrintMore
attribute [local go_sem] max2_int min2_int max_two min_two max_three min_three max_four min_four
set_option linter.unusedVariables false
set_option linter.unusedSimpArgs false
end Go.Proofs.Ytjhjhhibbmligaa.TE
end
section
namespace Go.Proofs.Ytjhjhhibbmligaa.TE
open Go.RowKit Go.Proofs.YtjhjhhibbmligaaW.PrintWords Go.Proofs.YtjhjhhibbmligaaW.PrintLast Go.Proofs.YtjhjhhibbmligaaW.PrintMore
attribute [local go_sem] max2_int min2_int max_two min_two max_three min_three max_four min_four
set_option linter.unusedVariables false
set_option linter.unusedSimpArgs false
def chiasmusref01_Chars.l0 : Nat → ByteArray → List (S42) → Int → Option ((List (S42)))
  | 0, _, _, _ => none
  | k + 1, x0, x3, x4 => if x4 < (x0.size : Int) then (if 0 ≤ x4 then (if x4 ≤ (wrap64 (x4 + 1)) then (if (wrap64 (x4 + 1)) ≤ (x0.size : Int) then (if x3.length < 2932031007402 then (chiasmusref01_Chars.l0 k x0 (x3 ++ [(⟨1, x0.extract (x4 : Int).toNat ((wrap64 (x4 + 1)) : Int).toNat, ([] : List (S42))⟩ : S42)]) (wrap64 (x4 + 1))) else (none)) else (none)) else (none)) else (none)) else (some x3)
def chiasmusref01_Chars.f (k : Nat) (a0 : ByteArray) : Option ((List (S42))) := chiasmusref01_Chars.l0 k a0 (([] : List (S42))) 0
end Go.Proofs.Ytjhjhhibbmligaa.TE
end
