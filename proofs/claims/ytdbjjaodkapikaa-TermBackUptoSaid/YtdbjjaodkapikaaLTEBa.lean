/- Packed: Small, the builder's methods, escape, Name. -/
import Derived.Test.YtdbjjaodkapikaaLTEx8
import Derived.Deep.RegionHeld3
import Derived.Lib.Strings
import Derived.Lib.Walk
import Derived.Lib.Builder
import Derived.Lib.AppendStr
import Derived.Lib.UnsafeStr
import Derived.WalkKit
import Derived.Laws.Externs
import Derived.BigQuiet
import Derived.Laws.Concat
section
namespace Go.Proofs.Ytdbjjaodkapikaa.TE
open Go.RowKit Go.Proofs.YtdbjjaodkapikaaW.PrintWords Go.Proofs.YtdbjjaodkapikaaW.PrintLast Go.Proofs.YtdbjjaodkapikaaW.PrintMore
set_option linter.unusedVariables false
set_option linter.unusedSimpArgs false
end Go.Proofs.Ytdbjjaodkapikaa.TE
namespace Go.Proofs.Ytdbjjaodkapikaa.TE
open Go.RowKit Go.Shelf Go.Proofs.YtdbjjaodkapikaaW.PrintWords Go.Proofs.YtdbjjaodkapikaaW.PrintLast Go.Proofs.YtdbjjaodkapikaaW.PrintMore
set_option linter.unusedVariables false
set_option linter.unusedSimpArgs false
attribute [local go_sem] Oper.semAt_some
end Go.Proofs.Ytdbjjaodkapikaa.TE
namespace Go.Proofs.Ytdbjjaodkapikaa.TE
open Go.RowKit Go.Shelf Go.Proofs.YtdbjjaodkapikaaW.PrintWords Go.Proofs.YtdbjjaodkapikaaW.PrintLast Go.Proofs.YtdbjjaodkapikaaW.PrintMore
set_option linter.unusedVariables false
set_option linter.unusedSimpArgs false
end Go.Proofs.Ytdbjjaodkapikaa.TE
end
