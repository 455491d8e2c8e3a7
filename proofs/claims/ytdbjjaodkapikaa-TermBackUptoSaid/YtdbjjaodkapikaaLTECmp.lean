/- Plain laws: the program's comparison and the reference's have one value, which is 0 just for the same expressions; twin is the expression. -/
import Derived.Test.YtdbjjaodkapikaaLTEPs4
import Derived.Test.YtdbjjaodkapikaaLTEx13
namespace Go.Proofs.Ytdbjjaodkapikaa.TE
open Go.RowKit Go.Proofs.YtdbjjaodkapikaaW.PrintWords Go.Proofs.YtdbjjaodkapikaaW.PrintLast Go.Proofs.YtdbjjaodkapikaaW.PrintMore Go.Proofs.Ytdbjjaodkapikaa.Evs
set_option linter.unusedVariables false
set_option linter.unusedSimpArgs false
end Go.Proofs.Ytdbjjaodkapikaa.TE
