/-
  Within, of this program.
-/
import Derived.Test.YtgdojnamjkhknaaQdWFn
namespace Go.Proofs.Ytgdojnamjkhknaa
open Go.Am
set_option linter.all false
theorem st30 : stF Try.prog qt 30 = some ilWithin := by kernel_rfl
end Go.Proofs.Ytgdojnamjkhknaa
