/-
  The closed law WordRuns, as a call that answers true.
-/
import Derived.Test.YtgdojnamjkhknaaWFn
import Derived.Test.YtgdojnamjkhknaaClWordRuns
namespace Go.Proofs.Ytgdojnamjkhknaa
open Go.Am
set_option linter.all false
namespace WR
def sRuns : List Value → Option (Bool × Value)
  | [] => some (true, .bool true)
  | _ => none
def tbl : Plain := [(3, sRuns)]
theorem tbl_ok : PlainOk Try.prog tbl := .cons (fun args v e => by
  unfold sRuns at e
  split at e
  · cases e; exact ⟨rfl, rfl, ClWordRuns.sim.mono fun _ _ q => q.1⟩
  · cases e) .nil
end WR
end Go.Proofs.Ytgdojnamjkhknaa
