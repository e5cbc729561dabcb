/- Imports alone. -/
import Derived.Test.YtgdojnamjkhknaaQaD3
