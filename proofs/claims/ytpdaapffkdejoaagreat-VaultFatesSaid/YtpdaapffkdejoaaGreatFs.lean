/- All formulae. Printed by gen.py (own tool). -/
import Derived.Test.YtpdaapffkdejoaaGreatF0
import Derived.Test.YtpdaapffkdejoaaGreatF1
import Derived.Test.YtpdaapffkdejoaaGreatF2
import Derived.Test.YtpdaapffkdejoaaGreatF3
import Derived.Test.YtpdaapffkdejoaaGreatF4
import Derived.Test.YtpdaapffkdejoaaGreatF5
import Derived.Test.YtpdaapffkdejoaaGreatF6
import Derived.Test.YtpdaapffkdejoaaGreatF7
import Derived.Test.YtpdaapffkdejoaaGreatF8
import Derived.Test.YtpdaapffkdejoaaGreatF9
