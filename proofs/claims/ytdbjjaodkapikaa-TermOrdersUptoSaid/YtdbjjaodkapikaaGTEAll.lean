/- The printed texts that all laws lean on. -/
import Derived.Test.YtdbjjaodkapikaaGTEx0
import Derived.Test.YtdbjjaodkapikaaGTEx1
import Derived.Test.YtdbjjaodkapikaaGTEx2
import Derived.Test.YtdbjjaodkapikaaGTEx3
import Derived.Test.YtdbjjaodkapikaaGTEx4
import Derived.Test.YtdbjjaodkapikaaGTEx6
import Derived.Test.YtdbjjaodkapikaaGTEx7
import Derived.Test.YtdbjjaodkapikaaGTEx8

