/- All formulae. Printed by gen.py (own tool). -/
import Derived.Test.YtjhenlajkhckfaaF0
import Derived.Test.YtjhenlajkhckfaaF1
import Derived.Test.YtjhenlajkhckfaaF2
import Derived.Test.YtjhenlajkhckfaaF3
import Derived.Test.YtjhenlajkhckfaaF4
import Derived.Test.YtjhenlajkhckfaaF5
import Derived.Test.YtjhenlajkhckfaaF6
import Derived.Test.YtjhenlajkhckfaaF7
