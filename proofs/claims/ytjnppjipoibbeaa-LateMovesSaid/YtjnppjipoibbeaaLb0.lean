/-
  Within: a number between two others.
-/
import Derived.Test.YtjnppjipoibbeaaAm23
import Derived.KernelRfl
namespace Go.Am
set_option linter.all false
set_option maxRecDepth 100000
def ilWithin : FnIL := ⟨24, [.tmp 6],
  .seq (.reg [
     ⟨(some 6), none, .mov (.const (.int .i64 0))⟩])
  (.seq (.reg [
     ⟨(some 7), none, .mov (.tmp 0)⟩,
     ⟨(some 8), none, .mov (.tmp 2)⟩,
     ⟨(some 9), none, .mov (.tmp 1)⟩,
     ⟨(some 10), none, .bin .sub (.tmp 8) (.tmp 9)⟩,
     ⟨(some 11), none, .bin .add (.tmp 10) (.const (.int .i64 1))⟩,
     ⟨(some 12), none, .bin .rem (.tmp 7) (.tmp 11)⟩,
     ⟨(some 0), none, .mov (.tmp 12)⟩])
  (.seq (.seq (.reg [
      ⟨(some 13), none, .mov (.tmp 0)⟩,
      ⟨(some 14), none, .bin .lss (.tmp 13) (.const (.int .i64 0))⟩])
   (.ite (.tmp 14)
     (.reg [
       ⟨(some 15), none, .mov (.tmp 0)⟩,
       ⟨(some 16), none, .mov (.tmp 2)⟩,
       ⟨(some 17), none, .bin .add (.tmp 15) (.tmp 16)⟩,
       ⟨(some 18), none, .mov (.tmp 1)⟩,
       ⟨(some 19), none, .bin .sub (.tmp 17) (.tmp 18)⟩,
       ⟨(some 20), none, .bin .add (.tmp 19) (.const (.int .i64 1))⟩,
       ⟨(some 0), none, .mov (.tmp 20)⟩])
     (.skip)))
  (.seq (.reg [
     ⟨(some 21), none, .mov (.tmp 1)⟩,
     ⟨(some 22), none, .mov (.tmp 0)⟩,
     ⟨(some 23), none, .bin .add (.tmp 21) (.tmp 22)⟩,
     ⟨(some 6), none, .mov (.tmp 23)⟩])
  (.ret))))⟩
def hnWithin : Hn := (.sym .nil .nil)
theorem treeWithin (x0 x1 x2 : Int) : fnT [] noEnv 100 ilWithin hnWithin [.int .i64 x0, .int .i64 x1, .int .i64 x2] [] =
(.req (!(decide ((IntKind.wrap .i64 ((IntKind.wrap .i64 (x2 - x1)) + 1)) = 0))) (.br (decide ((Int.tmod x0 (IntKind.wrap .i64 ((IntKind.wrap .i64 (x2 - x1)) + 1))) < 0))
 (.ret (.int .i64 (IntKind.wrap .i64 (x1 + (IntKind.wrap .i64 ((IntKind.wrap .i64 ((IntKind.wrap .i64 ((Int.tmod x0 (IntKind.wrap .i64 ((IntKind.wrap .i64 (x2 - x1)) + 1))) + x2)) - x1)) + 1))))) [])
 (.ret (.int .i64 (IntKind.wrap .i64 (x1 + (Int.tmod x0 (IntKind.wrap .i64 ((IntKind.wrap .i64 (x2 - x1)) + 1)))))) []))) := by kernel_rfl
/-- x, brought between lo and hi. -/
def wn (x lo hi : Int) : Int := lo + x % (hi - lo + 1)
theorem wn_lo {x lo hi : Int} (h : lo ≤ hi) : lo ≤ wn x lo hi := by unfold wn; have := Int.emod_nonneg x (b := hi - lo + 1) (by omega); omega
theorem wn_hi {x lo hi : Int} (h : lo ≤ hi) : wn x lo hi ≤ hi := by unfold wn; have := Int.emod_lt_of_pos x (b := hi - lo + 1) (by omega); omega
def preWithin (lo hi : Int) : Bool := decide (0 ≤ lo) && (decide (lo ≤ hi) && decide (hi ≤ 4611686018427387904))
def sWithin : List Value → Option (Bool × Value)
  | [.int .i64 x, .int .i64 lo, .int .i64 hi] => some (preWithin lo hi, .int .i64 (wn x lo hi))
  | _ => none
theorem wrap_id {n : Int} (h1 : -9223372036854775808 ≤ n) (h2 : n ≤ 9223372036854775807) : IntKind.wrap .i64 n = n := by
  rw [IntKind.wrap_i64]
  omega
theorem within_ok {P : Program} {qt : List Nat} (hm : P.follows .mixedOrders = true) {f : Nat} (hf : stF P qt f = some ilWithin) :
    ∀ args v, sWithin args = some (true, v) → args.all (belowV 0) = true ∧ belowV 0 v = true ∧ Sim P f args [] fun v1 _ => v1 = v := by
  intro args v e
  unfold sWithin at e
  split at e
  · rename_i x lo hi
    simp only [Option.some.injEq, Prod.mk.injEq] at e
    obtain ⟨e1, rfl⟩ := e
    unfold preWithin at e1
    simp only [Bool.and_eq_true, decide_eq_true_eq] at e1
    obtain ⟨h0, h1, h2⟩ := e1
    refine ⟨rfl, rfl, fnT_sim hm (T := []) (Γ := noEnv) (Plain.ok .nil noEnv_ok) (Plain.quiet noEnv_quiet) hf (fuel := 100) (hn := hnWithin) ?_⟩
    rw [treeWithin]
    have w1 : IntKind.wrap .i64 (hi - lo) = hi - lo := wrap_id (by omega) (by omega)
    have w2 : IntKind.wrap .i64 (hi - lo + 1) = hi - lo + 1 := wrap_id (by omega) (by omega)
    rw [w1, w2]
    have t1 := Int.emod_nonneg x (b := hi - lo + 1) (by omega)
    have t2 := Int.emod_lt_of_pos x (b := hi - lo + 1) (by omega)
    have t3 : Int.tmod x (hi - lo + 1) = if 0 ≤ x ∨ (hi - lo + 1) ∣ x then x % (hi - lo + 1) else x % (hi - lo + 1) - (hi - lo + 1) := by
      rw [Int.tmod_eq_emod]
      split
      · simp
      · congr 1
        omega
    have t4 : 0 ≤ Int.tmod x (hi - lo + 1) ∧ Int.tmod x (hi - lo + 1) = x % (hi - lo + 1) ∨ Int.tmod x (hi - lo + 1) < 0 ∧ Int.tmod x (hi - lo + 1) = x % (hi - lo + 1) - (hi - lo + 1) := by
      rw [t3]
      split
      · exact .inl ⟨t1, rfl⟩
      · exact .inr ⟨by omega, rfl⟩
    generalize x.tmod (hi - lo + 1) = m at t4
    refine ⟨by simp; omega, fun hb => ?_, fun hb => ?_⟩
    · have hb : m < 0 := by simpa using hb
      show Value.int .i64 _ = _
      unfold wn
      rw [wrap_id (n := m + hi) (by omega) (by omega), wrap_id (n := m + hi - lo) (by omega) (by omega), wrap_id (n := m + hi - lo + 1) (by omega) (by omega), wrap_id (by omega) (by omega)]
      congr 1
      omega
    · have hb : ¬ m < 0 := by simpa using hb
      show Value.int .i64 _ = _
      unfold wn
      rw [wrap_id (by omega) (by omega)]
      congr 1
      omega
  · cases e

end Go.Am
