/- Imports alone. -/
import Derived.Test.YtgdojnamjkhknaaQbD3
