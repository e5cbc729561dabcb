/-
  dealdoc, plain: a deal comes back out of its bytes, and nothing else does.
-/
import Derived.Test.YtgdojnamjkhknaaQaDu
namespace Go.Proofs.Ytgdojnamjkhknaa
open Go.Am
set_option linter.all false
namespace DP
open WB (byt byt_len)
open WI (intsF okI)
open RD (nx mny doneB)
open D (DV rightB)
open DE (dealI flat2 flat3 stepsI headI encD)
open DR (dealR rows2 rows3 row2 row3 stp stt val)
open DU (decD dv0)
theorem nx_inv {l : List Int} {b : Bool} (h : (nx l b).2.2 = false) : b = false ∧ l = (nx l b).1 :: (nx l b).2.1 := by
 cases b with
 | true => simp [nx] at h
 | false =>
  cases l with
  | nil => simp [nx] at h
  | cons x r => exact ⟨rfl, rfl⟩
theorem mny_inv {m : Int} {l : List Int} {b : Bool} (h : (mny m l b).2.2 = false) : b = false ∧ l = (mny m l b).1 :: (mny m l b).2.1 := by
 unfold mny at h ⊢
 split at h
 ·cases h
 ·rename_i q
  rw [if_neg q]
  exact nx_inv h
theorem row2_inv {l : List Int} {b : Bool} (h : (row2 l b).2.2 = false) : b = false ∧ l = (row2 l b).1.a :: (row2 l b).1.b :: (row2 l b).2.1 := by
 obtain ⟨h1, h2⟩ := nx_inv (l := (nx l b).2.1) (b := (nx l b).2.2) h
 obtain ⟨h3, h4⟩ := nx_inv h1
 exact ⟨h3, h4.trans (congrArg _ h2)⟩
theorem row3_inv {l : List Int} {b : Bool} (h : (row3 l b).2.2 = false) : b = false ∧ l = (row3 l b).1.a :: (row3 l b).1.b :: (row3 l b).1.c :: (row3 l b).2.1 := by
 obtain ⟨h1, h2⟩ := nx_inv (l := (row2 l b).2.1) (b := (row2 l b).2.2) h
 obtain ⟨h3, h4⟩ := row2_inv h1
 exact ⟨h3, h4.trans (congrArg (fun z => (row2 l b).1.a :: (row2 l b).1.b :: z) h2)⟩
theorem rows2_inv : ∀ {n : Nat} {l : List Int} {b : Bool}, (rows2 n l b).2.2 = false → b = false ∧ l = flat2 (rows2 n l b).1 ++ (rows2 n l b).2.1
 | 0, l, b, h => ⟨h, rfl⟩
 | n + 1, l, b, h => by
  obtain ⟨h1, h2⟩ := rows2_inv (n := n) (l := (row2 l b).2.1) (b := (row2 l b).2.2) h
  obtain ⟨h3, h4⟩ := row2_inv h1
  refine ⟨h3, h4.trans ?_⟩
  show _ = (row2 l b).1.a :: (row2 l b).1.b :: (flat2 (rows2 n (row2 l b).2.1 (row2 l b).2.2).1 ++ (rows2 n (row2 l b).2.1 (row2 l b).2.2).2.1)
  rw [← h2]
theorem rows3_inv : ∀ {n : Nat} {l : List Int} {b : Bool}, (rows3 n l b).2.2 = false → b = false ∧ l = flat3 (rows3 n l b).1 ++ (rows3 n l b).2.1
 | 0, l, b, h => ⟨h, rfl⟩
 | n + 1, l, b, h => by
  obtain ⟨h1, h2⟩ := rows3_inv (n := n) (l := (row3 l b).2.1) (b := (row3 l b).2.2) h
  obtain ⟨h3, h4⟩ := row3_inv h1
  refine ⟨h3, h4.trans ?_⟩
  show _ = (row3 l b).1.a :: (row3 l b).1.b :: (row3 l b).1.c :: (flat3 (rows3 n (row3 l b).2.1 (row3 l b).2.2).1 ++ (rows3 n (row3 l b).2.1 (row3 l b).2.2).2.1)
  rw [← h2]
theorem many2_inv {m : Int} (hm : 0 ≤ m) {l : List Int} {b : Bool} {r : List R2 × List Int × Bool} (e : r = rows2 (mny m l b).1.toNat (mny m l b).2.1 (mny m l b).2.2) (h : r.2.2 = false) : b = false ∧ l = (r.1.length : Int) :: flat2 r.1 ++ r.2.1 := by
 subst e
 obtain ⟨h1, h2⟩ := rows2_inv h
 obtain ⟨h3, h4⟩ := mny_inv h1
 have hk := DR.mny_b m hm l b
 refine ⟨h3, ?_⟩
 rw [DR.rows2_len, Int.toNat_of_nonneg hk.1, List.cons_append, ← h2]
 exact h4
theorem many3_inv {m : Int} (hm : 0 ≤ m) {l : List Int} {b : Bool} {r : List R3 × List Int × Bool} (e : r = rows3 (mny m l b).1.toNat (mny m l b).2.1 (mny m l b).2.2) (h : r.2.2 = false) : b = false ∧ l = (r.1.length : Int) :: flat3 r.1 ++ r.2.1 := by
 subst e
 obtain ⟨h1, h2⟩ := rows3_inv h
 obtain ⟨h3, h4⟩ := mny_inv h1
 have hk := DR.mny_b m hm l b
 refine ⟨h3, ?_⟩
 rw [DR.rows3_len, Int.toNat_of_nonneg hk.1, List.cons_append, ← h2]
 exact h4
theorem stt_inv {l : List Int} {b : Bool} : ∀ (k : Nat), (stt l b k).2 = false → b = false ∧ l = (List.range k).map (val l b) ++ (stt l b k).1
 | 0, h => ⟨h, rfl⟩
 | k + 1, h => by
  obtain ⟨h1, h2⟩ := nx_inv (l := (stt l b k).1) (b := (stt l b k).2) h
  obtain ⟨h3, h4⟩ := stt_inv k h1
  refine ⟨h3, ?_⟩
  rw [List.range_succ, List.map_append, List.append_assoc]
  exact h4.trans (congrArg _ h2)
theorem dealR_inv {l : List Int} {b : Bool} (h : doneB (dealR l b).2.1 (dealR l b).2.2 = true) : l = dealI (dealR l b).1 := by
 have hb : (dealR l b).2.2 = false := by
  unfold doneB at h; simp at h; exact h.1
 have hr : (dealR l b).2.1 = [] := by
  unfold doneB at h; simp at h; exact h.2
 obtain ⟨s, es⟩ : ∃ s, s = stt l b 13 := ⟨_, rfl⟩
 obtain ⟨L, eL⟩ : ∃ L, L = rows2 (mny 64 s.1 s.2).1.toNat (mny 64 s.1 s.2).2.1 (mny 64 s.1 s.2).2.2 := ⟨_, rfl⟩
 obtain ⟨N, eN⟩ : ∃ N, N = rows3 (mny 8 L.2.1 L.2.2).1.toNat (mny 8 L.2.1 L.2.2).2.1 (mny 8 L.2.1 L.2.2).2.2 := ⟨_, rfl⟩
 obtain ⟨s0, e0⟩ : ∃ s0, s0 = stp N.2.1 N.2.2 := ⟨_, rfl⟩
 obtain ⟨s1, e1⟩ : ∃ s1, s1 = stp s0.2.1 s0.2.2 := ⟨_, rfl⟩
 obtain ⟨s2, e2⟩ : ∃ s2, s2 = stp s1.2.1 s1.2.2 := ⟨_, rfl⟩
 have ed : dealR l b = (⟨val l b 0, val l b 1, val l b 2, val l b 3, val l b 4, val l b 5, val l b 6, val l b 7, val l b 8, val l b 9, val l b 10, val l b 11, val l b 12, L.1, N.1, s0.1, s1.1, s2.1⟩, s2.2) := by
  subst e2 e1 e0 eN eL es; rfl
 rw [ed] at hb hr ⊢
 obtain ⟨b1, q1⟩ := many2_inv (by decide) e2 hb
 obtain ⟨b2, q2⟩ := many2_inv (by decide) e1 b1
 obtain ⟨b3, q3⟩ := many2_inv (by decide) e0 b2
 obtain ⟨b4, q4⟩ := many3_inv (by decide) eN b3
 obtain ⟨b5, q5⟩ := many2_inv (by decide) eL b4
 rw [es] at b5
 obtain ⟨_, q6⟩ := stt_inv 13 b5
 rw [← es] at q6
 refine q6.trans ?_
 rw [q5, q4, q3, q2, q1, show s2.2.1 = [] from hr]
 simp [dealI, headI, stepsI, List.range_succ]
theorem decD_enc {bs : List Int} (hb : ∀ x ∈ bs, InB x) (h : (decD bs).2 = 0) : encD (decD bs).1 = bs ∧ rightB (decD bs).1 = true := by
 unfold decD at h ⊢
 cases ok : okI bs with
 | false => rw [ok] at h; cases h
 | true =>
  rw [ok, if_pos rfl] at h
  rw [if_pos rfl]
  split at h
  ·rename_i dn
   rw [if_pos dn]
   split at h
   ·rename_i rt
    rw [if_pos rt]
    refine ⟨?_, rt⟩
    unfold encD
    rw [rt, if_pos rfl]
    show byt (dealI (dealR (intsF bs) false).1) = bs
    rw [← dealR_inv dn]
    exact WI.byt_intsF (by unfold okI at ok; simpa using ok) hb
   ·cases h
  ·cases h
end DP
end Go.Proofs.Ytgdojnamjkhknaa
