/- Imports alone. -/
import Derived.Test.YtgdojnamjkhknaaQbD4
