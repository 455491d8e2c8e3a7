/- What an argument's reading says, kind by kind: the value that it is, with its own bulk. -/
import Derived.Test.YtdbjjaodkapikaaRows
import Derived.Test.YtdbjjaodkapikaaLWMore
import Derived.ProofKit
import Derived.OpenShut
import Derived.ShutString
import Derived.ChangeOld
import Derived.Below
import Derived.SizedLaws
import Derived.Deep.CondSized
import Derived.Deep.Slices
namespace Go.Proofs.Ytdbjjaodkapikaa.Opn
open Go.RowKit Go.Proofs.YtdbjjaodkapikaaW.PrintWords
set_option linter.unusedVariables false
set_option linter.unusedSimpArgs false
end Go.Proofs.Ytdbjjaodkapikaa.Opn
