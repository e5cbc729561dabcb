/-
  The law PoolOver.
-/
import Derived.Test.YtgdojnamjkhknaaQbPo3
import Derived.Test.YtgdojnamjkhknaaQbWi
import Derived.Test.YtgdojnamjkhknaaQbClPoolRuns
namespace Go.Proofs.Ytgdojnamjkhknaa
open Go.Am
set_option linter.all false
set_option maxRecDepth 100000
namespace PO
namespace O
def sRuns : List Value → Option (Bool × Value)
 | [] => some (true, .bool true)
 | _ => none
theorem runs_ok : ∀ args v, sRuns args = some (true, v) → args.all (belowV 0) = true ∧ belowV 0 v = true ∧ Sim Try.prog 11 args [] fun v1 _ => v1 = v := fun args v e => by
 unfold sRuns at e
 split at e
 ·cases e; exact ⟨rfl, rfl, ClPoolRuns.sim.mono fun _ _ q => q.1⟩
 ·cases e
theorem sub_ok (Γ : Env) (x y z : Int) (h : z = IntKind.wrap .i64 (x - y)) : opA Γ (.bin .sub (kI x) (kI y)) [] [] = some (.int .i64 z, []) := by subst h; rfl
theorem add_ok (Γ : Env) (x y z : Int) (h : z = IntKind.wrap .i64 (x + y)) : opA Γ (.bin .add (kI x) (kI y)) [] [] = some (.int .i64 z, []) := by subst h; rfl
section
variable {b x u k w : Int}
end
end O
end PO
end Go.Proofs.Ytgdojnamjkhknaa
