/- Imports alone. -/
import Derived.Test.YtgdojnamjkhknaaQaWFn
import Derived.Test.YtgdojnamjkhknaaQaLcA
