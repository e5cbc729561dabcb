/-
  The law PoolKeeps.
-/
import Derived.Test.YtgdojnamjkhknaaQbPo8
import Derived.Test.YtgdojnamjkhknaaQbLcB
namespace Go.Proofs.Ytgdojnamjkhknaa
open Go.Am
set_option linter.all false
set_option maxRecDepth 100000
namespace PO
namespace KP
open TL (TN TNOk)
theorem tapes_of {H : Heap} : ∀ (rows : List (List Value)), (∀ r ∈ rows, F2 (LT.ok H) [.s 1 [.i .i64], .s 1 [.i .i64], .s 1 [.i .i64], .s 1 [.i .i64], .s 1 [.i .i64], .s 1 [.i .i64]] r) → ∃ ts : List TN, rows.length = ts.length ∧ ∀ (j : Nat) (r : List Value) (k : TN), rows[j]? = some r → ts[j]? = some k → TNOk H k r
 | [], _ => ⟨[], rfl, fun j r k h => by simp at h⟩
 | r :: rs, h => by
  obtain ⟨ts, h1, h2⟩ := tapes_of rs fun r hr => h r (by simp [hr])
  have hr := h r (by simp)
  cases hr with
  | cons a0 hr => cases hr with
   | cons a1 hr => cases hr with
    | cons a2 hr => cases hr with
     | cons a3 hr => cases hr with
      | cons a4 hr => cases hr with
       | cons a5 hr => cases hr with
        | nil =>
         obtain ⟨z0, r0, _⟩ := lt_ints a0
         obtain ⟨z1, r1, _⟩ := lt_ints a1
         obtain ⟨z2, r2, _⟩ := lt_ints a2
         obtain ⟨z3, r3, _⟩ := lt_ints a3
         obtain ⟨z4, r4, _⟩ := lt_ints a4
         obtain ⟨z5, r5, _⟩ := lt_ints a5
         refine ⟨⟨z0, z1, z2, z3, z4, z5⟩ :: ts, by simp [h1], fun j r k e1 e2 => ?_⟩
         cases j with
         | zero =>
          simp at e1 e2
          subst e1 e2
          exact ⟨_, _, _, _, _, _, rfl, r0, r1, r2, r3, r4, r5⟩
         | succ j => exact h2 j r k (by simpa using e1) (by simpa using e2)
theorem nest_tapes {H : Heap} {v : Value} (h : NestOk 6 [.s 1 [.i .i64], .s 1 [.i .i64], .s 1 [.i .i64], .s 1 [.i .i64], .s 1 [.i .i64], .s 1 [.i .i64]] H v) : ∃ (ts : List TN) (ta : Option Addr) (ct : Nat), v = .slice ta ts.length ct ∧ TapesOk H v ts ∧ ts.length ≤ 140737488355328 := by
 obtain ⟨rows, h1, h2, h3⟩ := h
 obtain ⟨ts, h4, h5⟩ := tapes_of rows h2
 have : ∃ a c, v = .slice a rows.length c := by
  rcases h1 with ⟨rfl, rfl⟩ | ⟨B, o, c, blk, rfl, _⟩
  ·exact ⟨_, _, rfl⟩
  ·exact ⟨_, _, rfl⟩
 obtain ⟨a, c, hv⟩ := this
 exact ⟨ts, a, c, by rw [← h4]; exact hv, ⟨rows, h1, h4, h5⟩, by omega⟩
theorem TapesOk.app {A : Heap} {v : Value} {ts : List TN} (h : TapesOk A v ts) (X : Heap) : TapesOk (A ++ X) v ts := by
 obtain ⟨rows, h1, h2, h3⟩ := h
 exact ⟨rows, h1.app X, h2, fun j r k e1 e2 => TNOk.app (h3 j r k e1 e2) X⟩
theorem loans_wf : ∀ (zs : List Int) (i0 : Nat), (∀ x ∈ (K.loansG i0 zs).map newL, okL x) ∧ ∀ (i : Nat) (x : L5), ((K.loansG i0 zs).map newL)[i]? = some x → x.a = 2 * ((i0 + i : Nat) : Int) + 1
 | [], i0 => ⟨fun x h => by simp [K.loansG] at h, fun i x h => by simp [K.loansG] at h⟩
 | z :: r, i0 => by
  obtain ⟨h1, h2⟩ := loans_wf r (i0 + 1)
  have b0 := wn_lo (x := z) (lo := 0) (hi := 100000) (by decide)
  have b1 := wn_hi (x := z) (lo := 0) (hi := 100000) (by decide)
  refine ⟨fun x h => ?_, fun i x h => ?_⟩
  ·simp only [K.loansG, List.map_cons, List.mem_cons] at h
   rcases h with rfl | h
   ·exact ⟨b0, b1, by simp [newL], by simp [newL], fun q => (by simp [newL] at q), fun _ => rfl⟩
   ·exact h1 x h
  ·cases i with
   | zero =>
    simp [K.loansG, newL] at h
    subst h
    simp
   | succ i =>
    have := h2 i x (by simpa [K.loansG] using h)
    rw [this]; omega
theorem wf_new (bs : List Int) : WF ((K.loansF bs).map newL) := by
 obtain ⟨h1, h2⟩ := loans_wf (bs.take 10) 0
 refine ⟨?_, h1, fun i x h => ?_⟩
 ·simp only [List.length_map, K.loansF, K.loansG_len, List.length_take]; omega
 ·have := h2 i x h
  rw [this, Nat.zero_add]
end KP
end PO
end Go.Proofs.Ytgdojnamjkhknaa
