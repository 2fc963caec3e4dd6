/- All formulae. Printed by gen.py (own tool). -/
import Derived.Test.YtpflfnaflacfgaaF0
import Derived.Test.YtpflfnaflacfgaaF1
import Derived.Test.YtpflfnaflacfgaaF2
import Derived.Test.YtpflfnaflacfgaaF3
import Derived.Test.YtpflfnaflacfgaaF4
import Derived.Test.YtpflfnaflacfgaaF5
import Derived.Test.YtpflfnaflacfgaaF6
import Derived.Test.YtpflfnaflacfgaaF7
import Derived.Test.YtpflfnaflacfgaaF8
import Derived.Test.YtpflfnaflacfgaaF9
import Derived.Test.YtpflfnaflacfgaaF10
import Derived.Test.YtpflfnaflacfgaaF11
