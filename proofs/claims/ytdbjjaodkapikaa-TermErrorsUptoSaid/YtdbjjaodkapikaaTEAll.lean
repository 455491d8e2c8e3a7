/- The printed texts that all laws lean on. -/
import Derived.Test.YtdbjjaodkapikaaTEx0
import Derived.Test.YtdbjjaodkapikaaTEx1
import Derived.Test.YtdbjjaodkapikaaTEx2
import Derived.Test.YtdbjjaodkapikaaTEx3
import Derived.Test.YtdbjjaodkapikaaTEx4
import Derived.Test.YtdbjjaodkapikaaTEx6
import Derived.Test.YtdbjjaodkapikaaTEx7
import Derived.Test.YtdbjjaodkapikaaTEx8
