/- Part of the walk: lemmas and printed functions that the claim uses (wip/tools/trim.py). -/
import Derived.MapKept
import Derived.RangeFuncRecord
import Derived.Laws.Cover1
set_option linter.unusedVariables false
namespace Go.Proofs.Ytdbjjaodkapikaa.Hand
end Go.Proofs.Ytdbjjaodkapikaa.Hand
