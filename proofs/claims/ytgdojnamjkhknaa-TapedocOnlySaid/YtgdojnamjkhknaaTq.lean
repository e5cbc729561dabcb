/-
  tapedoc, plain: what is decoded encodes just so.
-/
import Derived.Test.YtgdojnamjkhknaaTd
namespace Go.Proofs.Ytgdojnamjkhknaa
open Go.Am
set_option linter.all false
namespace TV
open WB (byt byt_len)
open WI (intsF okI)
open RD (nx mny doneB)
open TE (tapeOk tapeI tapeP lineI encF)
open DC (lineR lnsR decF)
theorem nx_inv {l : List Int} {b : Bool} (h : (nx l b).2.2 = false) : b = false ∧ l = (nx l b).1 :: (nx l b).2.1 := by
  cases b with
  | true => simp [nx] at h
  | false =>
    cases l with
    | nil => simp [nx] at h
    | cons x r => exact ⟨rfl, rfl⟩
theorem mny_inv {m : Int} {l : List Int} {b : Bool} (h : (mny m l b).2.2 = false) : b = false ∧ l = (mny m l b).1 :: (mny m l b).2.1 := by
  unfold mny at h ⊢
  split at h
  · cases h
  · rename_i q
    rw [if_neg q]
    exact nx_inv h
theorem lineR_inv {l : List Int} {b : Bool} (h : (lineR l b).2.2 = false) : b = false ∧ l = lineI (lineR l b).1 ++ (lineR l b).2.1 := by
  obtain ⟨q0, e0⟩ : ∃ q, q = nx l b := ⟨_, rfl⟩
  obtain ⟨q1, e1⟩ : ∃ q, q = nx q0.2.1 q0.2.2 := ⟨_, rfl⟩
  obtain ⟨q2, e2⟩ : ∃ q, q = nx q1.2.1 q1.2.2 := ⟨_, rfl⟩
  obtain ⟨q3, e3⟩ : ∃ q, q = nx q2.2.1 q2.2.2 := ⟨_, rfl⟩
  obtain ⟨q4, e4⟩ : ∃ q, q = nx q3.2.1 q3.2.2 := ⟨_, rfl⟩
  obtain ⟨q5, e5⟩ : ∃ q, q = nx q4.2.1 q4.2.2 := ⟨_, rfl⟩
  obtain ⟨q6, e6⟩ : ∃ q, q = mny 1 q5.2.1 q5.2.2 := ⟨_, rfl⟩
  have er : lineR l b = (⟨q0.1, q1.1, q2.1, q3.1, q4.1, q5.1, q6.1 == 1⟩, q6.2) := by
    subst e6 e5 e4 e3 e2 e1 e0; rfl
  rw [er] at h ⊢
  have b6 := DC.mny_b 1 (by decide) q5.2.1 q5.2.2
  obtain ⟨h6, l6⟩ := mny_inv (m := 1) (l := q5.2.1) (b := q5.2.2) (by rw [← e6]; exact h)
  obtain ⟨h5, l5⟩ := nx_inv (l := q4.2.1) (b := q4.2.2) (by rw [← e5]; exact h6)
  obtain ⟨h4, l4⟩ := nx_inv (l := q3.2.1) (b := q3.2.2) (by rw [← e4]; exact h5)
  obtain ⟨h3, l3⟩ := nx_inv (l := q2.2.1) (b := q2.2.2) (by rw [← e3]; exact h4)
  obtain ⟨h2, l2⟩ := nx_inv (l := q1.2.1) (b := q1.2.2) (by rw [← e2]; exact h3)
  obtain ⟨h1, l1⟩ := nx_inv (l := q0.2.1) (b := q0.2.2) (by rw [← e1]; exact h2)
  obtain ⟨h0, l0⟩ := nx_inv (l := l) (b := b) (by rw [← e0]; exact h1)
  rw [← e0] at l0
  rw [← e1] at l1
  rw [← e2] at l2
  rw [← e3] at l3
  rw [← e4] at l4
  rw [← e5] at l5
  rw [← e6] at l6 b6
  refine ⟨h0, ?_⟩
  rw [l0, l1, l2, l3, l4, l5, l6]
  simp [lineI]
  by_cases q : q6.1 = 1
  · simp [q]
  · rw [if_neg q]; omega
theorem lnsR_inv : ∀ {n : Nat} {l : List Int} {b : Bool}, (lnsR n l b).2.2 = false → b = false ∧ l = (lnsR n l b).1.flatMap lineI ++ (lnsR n l b).2.1
  | 0, l, b, h => ⟨h, rfl⟩
  | n + 1, l, b, h => by
    obtain ⟨h1, h2⟩ := lnsR_inv (n := n) (l := (lineR l b).2.1) (b := (lineR l b).2.2) h
    obtain ⟨h3, h4⟩ := lineR_inv h1
    refine ⟨h3, h4.trans ?_⟩
    simp only [lnsR, List.flatMap_cons, List.append_assoc]
    rw [← h2]
/-- What is decoded encodes just so. -/
theorem decF_enc {bs : List Int} (hb : ∀ x ∈ bs, InB x) (h : (decF bs).2.2 = 0) : encF (decF bs).1 (decF bs).2.1 = bs := by
  obtain ⟨q, eq⟩ : ∃ q, q = nx (intsF bs) false := ⟨_, rfl⟩
  obtain ⟨k, ek⟩ : ∃ k, k = mny 64 q.2.1 q.2.2 := ⟨_, rfl⟩
  obtain ⟨r, er⟩ : ∃ r, r = lnsR k.1.toNat k.2.1 k.2.2 := ⟨_, rfl⟩
  have ed : decF bs = if okI bs then if doneB r.2.1 r.2.2 then if tapeOk q.1 r.1 then (q.1, r.1, 0) else (0, [], 3) else (0, [], 1) else (0, [], 1) := by
    subst er ek eq; rfl
  rw [ed] at h ⊢
  cases ok : okI bs with
  | false => rw [ok] at h; cases h
  | true =>
    rw [ok, if_pos rfl] at h
    rw [if_pos rfl]
    split at h
    · rename_i dn
      rw [if_pos dn]
      split at h
      · rename_i rt
        rw [if_pos rt]
        unfold doneB at dn
        simp at dn
        obtain ⟨d1, d2⟩ := dn
        have bk := DC.mny_b 64 (by decide) q.2.1 q.2.2
        obtain ⟨h3, l3⟩ := lnsR_inv (n := k.1.toNat) (l := k.2.1) (b := k.2.2) (by rw [← er]; exact d1)
        obtain ⟨h2, l2⟩ := mny_inv (m := 64) (l := q.2.1) (b := q.2.2) (by rw [← ek]; exact h3)
        obtain ⟨h1, l1⟩ := nx_inv (l := intsF bs) (b := false) (by rw [← eq]; exact h2)
        rw [← er, d2, List.append_nil] at l3
        rw [← ek] at l2 bk
        rw [← eq] at l1
        have nl : (r.1.length : Int) = k.1 := by rw [er, DC.lnsR_len]; omega
        show encF q.1 r.1 = bs
        unfold encF
        rw [if_pos rt]
        have : tapeI q.1 r.1 = intsF bs := by
          rw [l1, l2, l3]
          unfold tapeI tapeP
          rw [nl]
        rw [this]
        exact WI.byt_intsF (by unfold okI at ok; simpa using ok) hb
      · cases h
    · cases h
theorem dec_cases (bs : List Int) : (decF bs).2.2 = 0 ∨ decF bs = (0, [], 1) ∨ (decF bs = (0, [], 3) ∧ okI bs = true) := by
  unfold decF
  cases ok : okI bs with
  | false => exact .inr (.inl rfl)
  | true =>
    rw [if_pos rfl]
    dsimp only
    split
    · split
      · exact .inl rfl
      · exact .inr (.inr ⟨rfl, rfl⟩)
    · exact .inr (.inl rfl)
theorem dec_len (bs : List Int) : (decF bs).2.1.length ≤ 64 := by
  unfold decF
  split
  · dsimp only
    split
    · split
      · have := DC.mny_b 64 (by decide) (nx (intsF bs) false).2.1 (nx (intsF bs) false).2.2
        show (lnsR _ _ _).1.length ≤ 64
        rw [DC.lnsR_len]; omega
      · exact Nat.zero_le _
    · exact Nat.zero_le _
  · exact Nat.zero_le _
end TV
end Go.Proofs.Ytgdojnamjkhknaa
