/- Part of the walk: lemmas and printed functions that the claim uses (wip/tools/trim.py). -/
import Derived.Test.YtdbjjaodkapikaaHTEx0
import Derived.Test.YtdbjjaodkapikaaHTEx1
import Derived.Test.YtdbjjaodkapikaaHTEx2
import Derived.Test.YtdbjjaodkapikaaHTEx3
import Derived.Test.YtdbjjaodkapikaaHTEx4
import Derived.Test.YtdbjjaodkapikaaHTEx6
import Derived.Test.YtdbjjaodkapikaaHTEx7
import Derived.Test.YtdbjjaodkapikaaHTEx8

