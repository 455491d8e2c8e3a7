/- A function that counts its rounds has a value when all round numbers from some one on give it. -/
import Derived.Test.YtdbjjaodkapikaaLWMore
import Derived.OrdersHeld
import Derived.Deep.RegionHeld3
import Derived.Laws.BitsLemmas
import Derived.RowKit
import Derived.Laws.Strings
namespace Go.Proofs.Ytdbjjaodkapikaa.Evs
open Go.RowKit Go.Proofs.YtdbjjaodkapikaaW.PrintWords Go.Proofs.YtdbjjaodkapikaaW.PrintLast Go.Proofs.YtdbjjaodkapikaaW.PrintMore
set_option linter.unusedVariables false
set_option linter.unusedSimpArgs false
end Go.Proofs.Ytdbjjaodkapikaa.Evs
