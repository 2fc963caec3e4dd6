/- All formulae. Printed by gen.py (own tool). -/
import Derived.Test.YtdgdkbfigndndaaF0
import Derived.Test.YtdgdkbfigndndaaF1
import Derived.Test.YtdgdkbfigndndaaF2
import Derived.Test.YtdgdkbfigndndaaF3
import Derived.Test.YtdgdkbfigndndaaF4
import Derived.Test.YtdgdkbfigndndaaF5
import Derived.Test.YtdgdkbfigndndaaF6
import Derived.Test.YtdgdkbfigndndaaF7
import Derived.Test.YtdgdkbfigndndaaF8
import Derived.Test.YtdgdkbfigndndaaF9
import Derived.Test.YtdgdkbfigndndaaF10
import Derived.Test.YtdgdkbfigndndaaF11
import Derived.Test.YtdgdkbfigndndaaF12
