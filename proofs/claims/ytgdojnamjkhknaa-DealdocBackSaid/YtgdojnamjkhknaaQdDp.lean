/- Imports alone. -/
import Derived.Test.YtgdojnamjkhknaaQdDu
