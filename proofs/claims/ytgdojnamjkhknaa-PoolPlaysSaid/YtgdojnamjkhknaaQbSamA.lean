/- Imports alone. -/
import Derived.Test.YtgdojnamjkhknaaQbWFn
import Derived.Test.YtgdojnamjkhknaaQbLcA
