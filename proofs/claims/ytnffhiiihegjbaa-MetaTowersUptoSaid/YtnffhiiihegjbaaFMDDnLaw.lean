/- Plain law: Dn of any expression is what the reference says. -/
import Derived.Test.YtnffhiiihegjbaaFMDDnPlain
namespace Go.Proofs.Ytnffhiiihegjbaa.MD
open Go.RowKit Go.Proofs.YtnffhiiihegjbaaW.PrintWords Go.Proofs.YtnffhiiihegjbaaW.PrintLast Go.Proofs.YtnffhiiihegjbaaW.PrintMore Go.Proofs.Ytnffhiiihegjbaa.Evs
set_option linter.unusedVariables false
set_option linter.unusedSimpArgs false
theorem check_fine' {m : Int} {l : List S44} (h : checkS m l = 0) : (flat l).all (fineS m) = true := by
  unfold checkS at h
  split at h
  · omega
  split at h
  · omega
  split at h
  · assumption
  · omega
theorem Value_ev {l : List S44} (h : bk44s l ≤ 1099511627776) : Evt (fun k => term_Value.f k l) (checkS 4 l) := Evt.bind (check_ev h 4) (Evt.const _)
end Go.Proofs.Ytnffhiiihegjbaa.MD
