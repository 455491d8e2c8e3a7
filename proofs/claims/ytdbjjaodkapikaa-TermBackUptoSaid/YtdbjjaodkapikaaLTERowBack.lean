/- The law TermBack: for every input of bulk at most 1048576 the call returns true, and the arguments read as before. Conditions: none beyond the statement's own. -/
import Derived.Test.YtdbjjaodkapikaaLTELBack
import Derived.WalkKit
import Derived.ProofKit
import Derived.OpenShut
import Derived.ShutString
import Derived.ChangeOld
import Derived.Below
import Derived.SizedLaws
import Derived.Deep.CondSized
namespace Go.Proofs.Ytdbjjaodkapikaa.TE.termBack
open Go.ChangeShapes Go.WideShapes Go.ChangeAt Go.RowKit Go.Proofs.YtdbjjaodkapikaaW.PrintWords
open Go.ChangeMaps (open_string shut_string)
set_option linter.unusedVariables false
set_option linter.unusedSimpArgs false
#print axioms proved
end Go.Proofs.Ytdbjjaodkapikaa.TE.termBack
namespace Go.Proofs.Ytdbjjaodkapikaa
end Go.Proofs.Ytdbjjaodkapikaa
