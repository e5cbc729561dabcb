/-
  Bytes of whole numbers, in plain Lean: their value, their order.
-/
import Derived.Test.YtgdojnamjkhknaaQdWFn
import Derived.Test.YtgdojnamjkhknaaQdLcA
namespace Go.Proofs.Ytgdojnamjkhknaa
open Go.Am
set_option linter.all false
namespace WB
def u8 (z : Int) : UInt8 := UInt8.ofNat z.toNat
def val : List Int → Int
 | [] => 0
 | x :: r => x * 256 ^ r.length + val r
theorem pow_pos' (n : Nat) : (0 : Int) < 256 ^ n := Int.pow_pos (by decide)
def dg : Nat → Int → List Int
 | 0, _ => []
 | n + 1, z => (z / 256 ^ n) % 256 :: dg n z
theorem dg_len : ∀ (n : Nat) (z : Int), (dg n z).length = n
 | 0, _ => rfl
 | n + 1, z => by simp [dg, dg_len n z]
theorem dg_in : ∀ (n : Nat) (z : Int), ∀ x ∈ dg n z, InB x
 | 0, _ => fun x h => by cases h
 | n + 1, z => fun x h => by
  rcases List.mem_cons.1 h with rfl | h
  ·exact ⟨Int.emod_nonneg _ (by decide), Int.emod_lt_of_pos _ (by decide)⟩
  ·exact dg_in n z x h
theorem dg_val : ∀ (n : Nat) (z : Int), val (dg n z) = z % 256 ^ n
 | 0, z => by simp [dg, val, Int.emod_one]
 | n + 1, z => by
  simp only [dg, val, dg_len, dg_val n z, Int.pow_succ]
  have hp := pow_pos' n
  generalize (256 : Int) ^ n = p at *
  have h1 := Int.mul_ediv_add_emod z p
  have h2 := Int.mul_ediv_add_emod (z / p) 256
  have h3 := Int.emod_nonneg (z / p) (show (256 : Int) ≠ 0 by decide)
  have h4 := Int.emod_lt_of_pos (z / p) (show (0 : Int) < 256 by decide)
  have h5 := Int.emod_nonneg z (show p ≠ 0 by omega)
  have h6 := Int.emod_lt_of_pos z hp
  have hm : z / p % 256 * p ≤ 255 * p := Int.mul_le_mul_of_nonneg_right (by omega) (by omega)
  have hn : 0 ≤ z / p % 256 * p := Int.mul_nonneg h3 (by omega)
  have hz : z = (z / p % 256 * p + z % p) + p * 256 * (z / p / 256) := by
   have : p * (z / p) = p * 256 * (z / p / 256) + z / p % 256 * p := by
    conv => lhs; rw [← h2]
    rw [Int.mul_add, Int.mul_assoc, Int.mul_comm (z / p % 256) p]
   omega
  have hr : (z / p % 256 * p + z % p) % (p * 256) = z / p % 256 * p + z % p := Int.emod_eq_of_lt (by omega) (by omega)
  conv => rhs; rw [hz, Int.add_mul_emod_self_left]
  exact hr.symm
theorem wrap_u8 (x : Int) : IntKind.wrap .u8 x = x % 256 := by simp [IntKind.wrap, IntKind.bits, IntKind.signed]
theorem fdiv2 (z : Int) (k : Nat) : z.fdiv (2 ^ (8 * k)) = z / 256 ^ k := by
 rw [Int.fdiv_eq_ediv_of_nonneg _ (Int.le_of_lt (Int.pow_pos (by decide))), Int.pow_mul]
 rfl
theorem wd_dg (z : Int) : wd z = dg 8 z := by
 simp only [wd, List.map_cons, List.map_nil, dg, wrap_u8]
 have h := fun k => fdiv2 z k
 rw [← h 7, ← h 6, ← h 5, ← h 4, ← h 3, ← h 2, ← h 1, ← h 0]
theorem wd_in (z : Int) : ∀ x ∈ wd z, InB x := by rw [wd_dg]; exact dg_in 8 z
theorem wd_val (z : Int) : val (wd z) = z % 18446744073709551616 := by rw [wd_dg, dg_val]; rfl
end WB
end Go.Proofs.Ytgdojnamjkhknaa
