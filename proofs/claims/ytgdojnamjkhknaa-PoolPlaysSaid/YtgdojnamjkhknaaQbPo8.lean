/-
  The law PoolKeeps: a tape's turn.
-/
import Derived.Test.YtgdojnamjkhknaaQbPo7
namespace Go.Proofs.Ytgdojnamjkhknaa
open Go.Am
set_option linter.all false
set_option maxRecDepth 100000
namespace PO
namespace KP
open TL (TN TNOk)
open OF (ofF)
def TapesOk (A : Heap) (tv : Value) (ts : List TN) : Prop := ∃ rows : List (List Value), RowsW 6 A tv rows ∧ rows.length = ts.length ∧ ∀ (j : Nat) (r : List Value) (k : TN), rows[j]? = some r → ts[j]? = some k → TNOk A k r
theorem TNOk.app {H : Heap} {k : TN} {vs : List Value} (h : TNOk H k vs) (X : Heap) : TNOk (H ++ X) k vs := by
 obtain ⟨u0, u1, u2, u3, u4, u5, e, h0, h1, h2, h3, h4, h5⟩ := h.ok
 exact ⟨u0, u1, u2, u3, u4, u5, e, h0.app X, h1.app X, h2.app X, h3.app X, h4.app X, h5.app X⟩
abbrev nb (v : Value) : Option Blk := some ⟨.fix, [v]⟩
end KP
end PO
end Go.Proofs.Ytgdojnamjkhknaa
