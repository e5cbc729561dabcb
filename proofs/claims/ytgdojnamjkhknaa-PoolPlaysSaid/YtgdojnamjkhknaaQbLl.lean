/-
  Lists that begin as a literal and grow.
-/
import Derived.Test.YtgdojnamjkhknaaQbLnA
namespace Go.Am
set_option linter.all false
theorem LsS.ahead {w : Nat} {H A J : Heap} {l : Value} {rows : List (List Value)} (a : LsS w (H ++ A) J l rows) : LsS w H (A ++ J) l rows := by
 rcases a with a | ⟨j, a1, a2, a4⟩ | ⟨j, a1, a2, a3, a4⟩
 ·exact .inl a
 ·refine .inr (.inl ⟨A.length + j, a1, ?_, ?_⟩)
  ·rw [a2, List.length_append, Nat.add_assoc]
  ·rw [List.getElem?_append_right (by omega), Nat.add_sub_cancel_left]; exact a4
 ·refine .inr (.inr ⟨A.length + j, ?_, a2, a3, ?_⟩)
  ·rw [a1, List.length_append, Nat.add_assoc]
  ·rw [List.getElem?_append_right (by omega), Nat.add_sub_cancel_left]; exact a4
end Go.Am
