/-
  pool: a tape of loans as they stand may be; what it turns.
-/
import Derived.Test.YtgdojnamjkhknaaQbPo3
import Derived.Test.YtgdojnamjkhknaaQbPo5
namespace Go.Proofs.Ytgdojnamjkhknaa
open Go.Am
set_option linter.all false
set_option maxRecDepth 100000
namespace PO
open PK (pk)
open TL (TN)
open OF (yL lineO ofG ofF)
def nowOf (l : List L5) : List R2 := l.map fun x => ⟨x.a, x.b⟩
def lostOf (l : List L5) : List Int := l.map L5.c
structure okL (x : L5) : Prop where
 b0 : 0 ≤ x.b
 b1 : x.b ≤ 100000
 c0 : 0 ≤ x.c
 c1 : x.c ≤ 100000
 ov : x.e = true → x.b = 0
 nt : x.e = false → x.c = 0
theorem wr_id {x : Int} (h1 : -9223372036854775808 ≤ x) (h2 : x < 9223372036854775808) : wr x = x := wrap64 h1 h2
structure WF (l : List L5) : Prop where
 len : l.length ≤ 10
 ok : ∀ x ∈ l, okL x
 id : ∀ (i : Nat) (x : L5), l[i]? = some x → x.a = 2 * (i : Int) + 1
theorem atI_none {id : Int} {l : List L5} (h : ∀ x ∈ l, x.a ≠ id) : atI id l = none := by
 induction l with
 | nil => rfl
 | cons y r ih => simp [atI, h y (by simp), ih fun z hz => h z (by simp [hz])]
end PO
end Go.Proofs.Ytgdojnamjkhknaa
