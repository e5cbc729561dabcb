/-
  DealTurned: what its numbers come to (the plain law).
-/
import Derived.Test.YtgdojnamjkhknaaLa12
namespace Go.Proofs.Ytgdojnamjkhknaa
open Go.Am
set_option linter.all false
set_option maxRecDepth 100000
namespace L
namespace T
open K (KV KW kVal dealF DlA At kB dB sumB sumB_b sumO notesF noteAt loansK pk)
theorem note_b {no ra rt : List Int} {p : Int} (hp : 0 ≤ p) : ∀ x ∈ notesF no ra rt p, 0 ≤ x.b ∧ x.b ≤ 1 + p / 6 := fun x hx => by
  simp only [notesF, List.mem_map] at hx
  obtain ⟨i, _, rfl⟩ := hx
  have hd : Int.tdiv p 6 = p / 6 := Int.tdiv_eq_ediv_of_nonneg hp
  have b1 := wn_lo (x := pk no i) (show (0 : Int) ≤ Int.tdiv p 6 by omega)
  have b2 := wn_hi (x := pk no i) (show (0 : Int) ≤ Int.tdiv p 6 by omega)
  simp only [noteAt]
  omega
theorem sumO_b {c : Int} (hc : 0 ≤ c) : ∀ (l : List R3), (∀ x ∈ l, 0 ≤ x.b ∧ x.b ≤ c) → 0 ≤ sumO l ∧ sumO l ≤ l.length * c
  | [], _ => by simp [sumO]
  | x :: r, h => by
    have h1 := h x (by simp)
    have h2 := sumO_b hc r fun y hy => h y (List.mem_cons_of_mem _ hy)
    have e : ((x :: r).length : Int) * c = (r.length : Int) * c + c := by
      simp only [List.length_cons]; push_cast; rw [Int.add_mul, Int.one_mul]
    simp only [sumO, List.map_cons, List.sum_cons] at h2 ⊢
    rw [e]
    omega
theorem notes_le (k : KV) : 0 ≤ sumO (dealF k).n ∧ sumO (dealF k).n ≤ sumB (loansK k) := by
  have hp := K.loansK_sum k
  have h1 := sumO_b (c := 1 + sumB (loansK k) / 6) (by omega) (dealF k).n (note_b (by omega))
  have h2 := K.notesF_len k.no k.ra k.rt (sumB (loansK k))
  have h3 : ((dealF k).n.length : Int) * (1 + sumB (loansK k) / 6) ≤ 5 * (1 + sumB (loansK k) / 6) := Int.mul_le_mul_of_nonneg_right (show ((notesF k.no k.ra k.rt (sumB (loansK k))).length : Int) ≤ 5 by omega) (by omega)
  omega
theorem notes_part (k : KV) (i : Nat) : -100000000 ≤ sumO ((dealF k).n.take i) ∧ sumO ((dealF k).n.take i) ≤ 100000000 := by
  have hp := K.loansK_sum k
  have h1 := sumO_b (c := 1 + sumB (loansK k) / 6) (by omega) ((dealF k).n.take i) fun x hx => note_b (by omega) x (List.mem_of_mem_take hx)
  have h2 := K.notesF_len k.no k.ra k.rt (sumB (loansK k))
  have h4 : ((dealF k).n.take i).length ≤ 5 := by
    rw [List.length_take]
    have : (dealF k).n.length ≤ 5 := h2.2
    omega
  have h3 : (((dealF k).n.take i).length : Int) * (1 + sumB (loansK k) / 6) ≤ 5 * (1 + sumB (loansK k) / 6) := Int.mul_le_mul_of_nonneg_right (by omega) (by omega)
  omega
theorem loans_part (k : KV) (i : Nat) : -100000000 ≤ sumB ((loansK k).take i) ∧ sumB ((loansK k).take i) ≤ 100000000 := by
  have h1 := sumB_b ((loansK k).take i) fun x hx => K.loansK_b k x (List.mem_of_mem_take hx)
  have h2 := K.loansK_len k
  have h3 : ((loansK k).take i).length ≤ 11 := by rw [List.length_take]; omega
  omega
theorem At.some_ {w g n c : Nat} {Y : Heap} {a : Option Addr} {rows : List (List Value)} (h : At w g Y (.slice a n c) rows) (hne : rows ≠ []) : ∃ x, a = some x := by
  rcases h (List.replicate g none) [] (by simp) with ⟨q1, q2⟩ | ⟨B, o, c', blk, q, _⟩
  · first | exact absurd q1 hne | exact absurd q2 hne
  · simp only [Value.slice.injEq] at q
    exact ⟨_, q.1⟩
end T
end L
end Go.Proofs.Ytgdojnamjkhknaa
