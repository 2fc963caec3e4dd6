/- All formulae. Printed by gen.py (own tool). -/
import Derived.Test.YtojcgejjdfcaaaaF0
import Derived.Test.YtojcgejjdfcaaaaF1
import Derived.Test.YtojcgejjdfcaaaaF2
import Derived.Test.YtojcgejjdfcaaaaF3
import Derived.Test.YtojcgejjdfcaaaaF4
import Derived.Test.YtojcgejjdfcaaaaF5
import Derived.Test.YtojcgejjdfcaaaaF6
import Derived.Test.YtojcgejjdfcaaaaF7
import Derived.Test.YtojcgejjdfcaaaaF8
import Derived.Test.YtojcgejjdfcaaaaF9
import Derived.Test.YtojcgejjdfcaaaaF10
import Derived.Test.YtojcgejjdfcaaaaF11
import Derived.Test.YtojcgejjdfcaaaaF12
import Derived.Test.YtojcgejjdfcaaaaF13
