/-
  From what a call does, said of heaps, to what a row asks.
-/
import Derived.Test.YtjnppjipoibbeaaAm20
import Derived.Below
namespace Go.Am
set_option linter.all false

variable {P : Program}

theorem HR.nil (w : World) : HR (fun _ => none) [] w :=
  ⟨fun _ _ e => (by cases e), fun B blk e => (by simp at e), fun B1 B2 b1 b2 l1 l2 e => (by simp at e)⟩

/-- Where nothing that came in may be written, nothing of it is other than it was. -/
theorem Ext.below {ι ι' : Map} {h h' : Heap} {w w' : World} (E : Ext ι h w ι' h' w') (ro : ∀ (B : Nat) (blk : Blk), h[B]? = some (some blk) → blk.kind = .ro) : Go.RowKit.Below w.heap.size w w' :=
  ⟨E.os, E.tape, E.output, E.size, fun k hk => E.frame k hk fun B blk l hB hr _ => absurd (ro B blk hB) hr⟩

/-- A law that answers true. -/
theorem Sim.law {f : FuncId} {args : List Value} {h : Heap} (s : Sim P f args h fun v _ => v = .bool true) {ι : Map} {w : World} {args' : List Value} (hA : F2 (VR ι) args args') (H : HR ι h w)
    (ro : ∀ (B : Nat) (blk : Blk), h[B]? = some (some blk) → blk.kind = .ro) : Calls P f ⟨args'⟩ w fun e w' => e = .returned (.bool true) ∧ Go.RowKit.Below w.heap.size w w' :=
  (s.2 ι w args' hA H).mono fun e w' ⟨v, v', h', ι', hv, he, hvr, _, E⟩ => by
    subst hv
    rw [hvr.bool_inv] at he
    exact ⟨he, E.below ro⟩

theorem TabOk.nil {qt : List Nat} : TabOk P qt [] := fun f F e => by cases e
theorem TabOk.cons {qt : List Nat} {g : Nat} {G : FnIL} {T : Tab} (h : stF P qt g = some G) (k : TabOk P qt T) : TabOk P qt ((g, G) :: T) := fun f F e => by
  unfold Tab.find at e
  split at e
  · rename_i q
    cases e
    rw [q]
    exact h
  · exact k f F e

end Go.Am
