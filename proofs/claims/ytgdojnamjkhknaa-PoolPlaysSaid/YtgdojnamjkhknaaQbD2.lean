/-
  deal: what its notes are, which steps may be a mode's; the document's own answer to that.
-/
import Derived.Test.YtgdojnamjkhknaaQbD1
namespace Go.Proofs.Ytgdojnamjkhknaa
open Go.Am
set_option linter.all false
set_option maxRecDepth 100000
namespace D
open A (gE cE gE_ok gE_q cE_ok)
def ntOk (most all : Int) (x : R3) : Prop := (0 ≤ x.a ∧ x.a ≤ 7) ∧ (1 ≤ x.b ∧ x.b ≤ most - all) ∧ (0 ≤ x.c ∧ x.c ≤ 5000)
instance (most all : Int) (x : R3) : Decidable (ntOk most all x) := by unfold ntOk; exact inferInstance
namespace C
end C
end D
end Go.Proofs.Ytgdojnamjkhknaa
