/- All formulae. Printed by gen.py (own tool). -/
import Derived.Test.YtleehieomicicaaF0
import Derived.Test.YtleehieomicicaaF1
import Derived.Test.YtleehieomicicaaF2
import Derived.Test.YtleehieomicicaaF3
import Derived.Test.YtleehieomicicaaF4
import Derived.Test.YtleehieomicicaaF5
import Derived.Test.YtleehieomicicaaF6
import Derived.Test.YtleehieomicicaaF7
import Derived.Test.YtleehieomicicaaF8
import Derived.Test.YtleehieomicicaaF9
