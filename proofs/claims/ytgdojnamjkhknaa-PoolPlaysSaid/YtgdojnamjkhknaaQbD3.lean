/-
  deal: which steps may be a mode's; the document's own answer to that is the same.
-/
import Derived.Test.YtgdojnamjkhknaaQbD2
namespace Go.Proofs.Ytgdojnamjkhknaa
open Go.Am
set_option linter.all false
set_option maxRecDepth 100000
namespace D
def stOk (x : R2) : Prop := (1 ≤ x.a ∧ x.a ≤ 7) ∧ (0 ≤ x.b ∧ x.b ≤ if x.a = 3 then 7 else 0)
instance (x : R2) : Decidable (stOk x) := by unfold stOk; exact inferInstance
namespace S
end S
end D
end Go.Proofs.Ytgdojnamjkhknaa
