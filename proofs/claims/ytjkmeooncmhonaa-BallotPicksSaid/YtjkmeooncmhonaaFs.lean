/- All formulae. Printed by gen.py (own tool). -/
import Derived.Test.YtjkmeooncmhonaaF0
import Derived.Test.YtjkmeooncmhonaaF1
import Derived.Test.YtjkmeooncmhonaaF2
import Derived.Test.YtjkmeooncmhonaaF3
import Derived.Test.YtjkmeooncmhonaaF4
import Derived.Test.YtjkmeooncmhonaaF5
import Derived.Test.YtjkmeooncmhonaaF6
import Derived.Test.YtjkmeooncmhonaaF7
