/-
  Whole numbers come back out of their bytes, and bytes out of their numbers: in plain Lean.
-/
import Derived.Test.YtgdojnamjkhknaaQdWPl
import Derived.Test.YtgdojnamjkhknaaQdIi
namespace Go.Proofs.Ytgdojnamjkhknaa
open Go.Am
set_option linter.all false
namespace WI
open WB (wd byt val wd_in wd_val wd_len byt_len)
theorem ofInt_wrap (x : Int) : BitVec.ofInt 64 (IntKind.wrap .i64 x) = BitVec.ofInt 64 x := by
 apply BitVec.eq_of_toNat_eq
 rw [BitVec.toNat_ofInt, BitVec.toNat_ofInt, IntKind.wrap_i64]
 congr 1
 omega
theorem wrap_eq {x y : Int} (h : x % 18446744073709551616 = y % 18446744073709551616) : IntKind.wrap .i64 x = IntKind.wrap .i64 y := by
 rw [IntKind.wrap_i64, IntKind.wrap_i64]
 omega
theorem or_step (n b : Int) (hb : InB b) : orI .i64 (shlI .i64 n 8) (IntKind.wrap .i64 b) = IntKind.wrap .i64 (n * 256 + b) := by
 obtain ⟨b1, b2⟩ := hb
 unfold orI shlI
 show IntKind.wrap .i64 ((BitVec.ofInt 64 (IntKind.wrap .i64 (n * 256)) ||| BitVec.ofInt 64 (IntKind.wrap .i64 b)).toNat : Int) = _
 rw [ofInt_wrap, ofInt_wrap, BitVec.toNat_or, BitVec.toNat_ofInt, BitVec.toNat_ofInt]
 have e1 : ((n * 256) % ((2 ^ 64 : Nat) : Int)).toNat = (n % 72057594037927936).toNat <<< 8 := by
  rw [Nat.shiftLeft_eq]
  omega
 have e2 : (b % ((2 ^ 64 : Nat) : Int)).toNat = b.toNat := by omega
 rw [e1, e2, ← Nat.shiftLeft_add_eq_or_of_lt (by omega)]
 apply wrap_eq
 rw [Nat.shiftLeft_eq]
 omega
theorem val8_eq {b0 b1 b2 b3 b4 b5 b6 b7 : Int} (h : ∀ x ∈ [b0, b1, b2, b3, b4, b5, b6, b7], InB x) : val8 b0 b1 b2 b3 b4 b5 b6 b7 = IntKind.wrap .i64 (val [b0, b1, b2, b3, b4, b5, b6, b7]) := by
 unfold val8
 rw [show orI .i64 0 (IntKind.wrap .i64 b0) = orI .i64 (shlI .i64 0 8) (IntKind.wrap .i64 b0) from rfl, or_step _ b0 (h _ (by simp)), or_step _ b1 (h _ (by simp)), or_step _ b2 (h _ (by simp)), or_step _ b3 (h _ (by simp)), or_step _ b4 (h _ (by simp)), or_step _ b5 (h _ (by simp)), or_step _ b6 (h _ (by simp)), or_step _ b7 (h _ (by simp))]
 simp only [IntKind.wrap_i64, val, List.length_cons, List.length_nil]
 omega
theorem wd_get (z : Int) : ∃ b0 b1 b2 b3 b4 b5 b6 b7, wd z = [b0, b1, b2, b3, b4, b5, b6, b7] := ⟨_, _, _, _, _, _, _, _, rfl⟩
theorem val8_wd {z : Int} (hz : In64 z) {b0 b1 b2 b3 b4 b5 b6 b7 : Int} (e : wd z = [b0, b1, b2, b3, b4, b5, b6, b7]) : val8 b0 b1 b2 b3 b4 b5 b6 b7 = z := by
 have hi := wd_in z
 have hv := wd_val z
 rw [e] at hi hv
 rw [val8_eq hi, hv, IntKind.wrap_i64]
 obtain ⟨h1, h2⟩ := hz
 omega
theorem chunk_app {a : List Int} (r : List Int) {b0 b1 b2 b3 b4 b5 b6 b7 : Int} (ea : a = [b0, b1, b2, b3, b4, b5, b6, b7]) : ints (a ++ r) = val8 b0 b1 b2 b3 b4 b5 b6 b7 :: ints r := by
 subst ea
 unfold ints
 rw [show ([b0, b1, b2, b3, b4, b5, b6, b7] ++ r).length / 8 = r.length / 8 + 1 by simp; omega, List.range_succ_eq_map, List.map_cons, List.map_map]
 refine congrArg (_ :: ·) ?_
 apply List.map_congr_left
 intro k _
 simp only [Function.comp, chunk]
 have g : ∀ j, ([b0, b1, b2, b3, b4, b5, b6, b7] ++ r).getD (8 * (k + 1) + j) 0 = r.getD (8 * k + j) 0 := fun j => by
  simp only [List.getD]
  rw [List.getElem?_append_right (by simp; omega)]
  congr 2
  simp; omega
 have g0 := g 0
 simp only [Nat.add_zero] at g0
 simp only [Nat.succ_eq_add_one, g0, g]
theorem ints_byt : ∀ {zs : List Int}, (∀ z ∈ zs, In64 z) → ints (byt zs) = zs
 | [], _ => rfl
 | z :: r, h => by
  obtain ⟨b0, b1, b2, b3, b4, b5, b6, b7, e⟩ := wd_get z
  have : byt (z :: r) = wd z ++ byt r := by simp [byt]
  rw [this, chunk_app _ e, val8_wd (h z (by simp)) e, ints_byt fun x hx => h x (by simp [hx])]
theorem intsF_byt {zs : List Int} (h : ∀ z ∈ zs, In64 z) : intsF (byt zs) = zs := by
 unfold intsF
 rw [if_pos (by rw [byt_len]; omega), ints_byt h]
theorem okI_byt (zs : List Int) : okI (byt zs) = true := by
 unfold okI
 rw [byt_len]
 simp
theorem intsF_len (bs : List Int) : (intsF bs).length = if bs.length % 8 = 0 then bs.length / 8 else 0 := by
 unfold intsF ints
 split <;> simp
end WI
end Go.Proofs.Ytgdojnamjkhknaa
