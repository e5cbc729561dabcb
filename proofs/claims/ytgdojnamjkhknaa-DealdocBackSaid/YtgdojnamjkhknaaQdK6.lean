/-
  keep: a deal of numbers is right (the plain law).
-/
import Derived.Test.YtgdojnamjkhknaaQdK5
namespace Go.Proofs.Ytgdojnamjkhknaa
open Go.Am
set_option linter.all false
set_option maxRecDepth 100000
namespace K
open D (DV stOk stpG stpF has2 ntG ntF ntOk trmB wB wB_t rightB)
open D.A (lnG lnF)
theorem r2_ext {x y : R2} (h1 : x.a = y.a) (h2 : x.b = y.b) : x = y := by cases x; cases y; simp_all
theorem has2_mem {l : List R2} {y : R2} : has2 l y = true ↔ y ∈ l := by
 unfold has2
 rw [List.any_eq_true]
 constructor
 ·rintro ⟨x, hx, h⟩
  simp at h
  rw [r2_ext h.1 h.2]; exact hx
 ·exact fun h => ⟨y, h, by simp⟩
theorem hasS_mem {l : List R2} {y : R2} : hasS l y = true ↔ y ∈ l := by
 unfold hasS
 rw [List.any_eq_true]
 constructor
 ·rintro ⟨x, hx, h⟩
  simp at h
  rw [← r2_ext h.1 h.2]; exact hx
 ·exact fun h => ⟨y, h, by simp⟩
theorem stpG_iff : ∀ (l pre : List R2), stpG pre l = true ↔ (∀ x ∈ l, stOk x) ∧ l.Nodup ∧ ∀ x ∈ l, x ∉ pre
 | [], pre => by simp [stpG]
 | x :: r, pre => by
  simp only [stpG]
  by_cases h : ¬ stOk x ∨ has2 pre x = true
  ·rw [if_pos h]
   simp only [Bool.false_eq_true, false_iff]
   rintro ⟨h1, _, h3⟩
   rcases h with h | h
   ·exact h (h1 x (by simp))
   ·exact h3 x (by simp) (has2_mem.1 h)
  ·rw [if_neg h, stpG_iff r (pre ++ [x])]
   have h1 : stOk x := Classical.byContradiction fun q => h (.inl q)
   have h2 : x ∉ pre := fun q => h (.inr (has2_mem.2 q))
   constructor
   ·rintro ⟨a, b, c⟩
    refine ⟨fun y hy => ?_, List.nodup_cons.2 ⟨fun q => c x q (by simp), b⟩, fun y hy => ?_⟩
    ·rcases List.mem_cons.1 hy with rfl | hy
     ·exact h1
     ·exact a y hy
    ·rcases List.mem_cons.1 hy with rfl | hy
     ·exact h2
     ·exact fun q => c y hy (by simp [q])
   ·rintro ⟨a, b, c⟩
    obtain ⟨b1, b2⟩ := List.nodup_cons.1 b
    refine ⟨fun y hy => a y (by simp [hy]), b2, fun y hy q => ?_⟩
    rcases List.mem_append.1 q with q | q
    ·exact c y (by simp [hy]) q
    ·rw [List.mem_singleton.1 q] at hy; exact b1 hy
theorem stpF_iff {l : List R2} : stpF l = true ↔ (1 ≤ l.length ∧ l.length ≤ 16) ∧ (∀ x ∈ l, stOk x) ∧ l.Nodup := by
 unfold stpF
 by_cases h : 1 ≤ l.length ∧ l.length ≤ 16
 ·rw [if_pos h, stpG_iff]
  simp [h]
 ·rw [if_neg h]; simp [h]
theorem stepOf_ok (z : Int) : stOk (stepOf z) := by
 have h1 := wn_lo (x := z) (show (1 : Int) ≤ 7 by decide)
 have h2 := wn_hi (x := z) (show (1 : Int) ≤ 7 by decide)
 have h3 := wn_lo (x := IntKind.wrap .i64 (Int.tdiv z 7)) (show (0 : Int) ≤ 3 by decide)
 have h4 := wn_hi (x := IntKind.wrap .i64 (Int.tdiv z 7)) (show (0 : Int) ≤ 3 by decide)
 refine ⟨⟨h1, h2⟩, ?_⟩
 simp only [stepOf]
 split <;> omega
theorem fold_ok : ∀ (zs : List Int) (l : List R2), (∀ x ∈ l, stOk x) → l.Nodup → (∀ x ∈ zs.foldl stepAdd l, stOk x) ∧ (zs.foldl stepAdd l).Nodup
 | [], l, h1, h2 => ⟨h1, h2⟩
 | z :: r, l, h1, h2 => by
  refine fold_ok r (stepAdd l z) ?_ ?_
  ·unfold stepAdd
   split
   ·exact h1
   ·intro x hx
    rcases List.mem_append.1 hx with hx | hx
    ·exact h1 x hx
    ·rw [List.mem_singleton.1 hx]; exact stepOf_ok z
  ·unfold stepAdd
   split
   ·exact h2
   ·rename_i q
    have hn : stepOf z ∉ l := fun h => q (hasS_mem.2 h)
    refine List.nodup_append.2 ⟨h2, by simp, fun a ha b hb e => ?_⟩
    rw [List.mem_singleton.1 hb] at e
    exact hn (e ▸ ha)
theorem stepsF_len (zs : List Int) : 1 ≤ (stepsF zs).length ∧ (stepsF zs).length ≤ 12 := by
 have := stepsL_len zs
 unfold stepsF
 split
 ·decide
 ·omega
theorem dflt_ok : (∀ x ∈ dflt, stOk x) ∧ dflt.Nodup := by
 have : stpF dflt = true := by decide +kernel
 exact (stpF_iff.1 this).2
theorem stepsF_ok (zs : List Int) : (∀ x ∈ stepsF zs, stOk x) ∧ (stepsF zs).Nodup := by
 unfold stepsF
 split
 ·exact dflt_ok
 ·exact fold_ok _ [] (by simp) (by simp)
theorem stepsF_right (zs : List Int) : stpF (stepsF zs) = true := stpF_iff.2 ⟨⟨(stepsF_len zs).1, by have := (stepsF_len zs).2; omega⟩, stepsF_ok zs⟩
theorem sumB_cons (x : R2) (l : List R2) : sumB (x :: l) = x.b + sumB l := by simp [sumB]
theorem loansG_right : ∀ (l : List Int) (i : Nat) (last all : Int), last ≤ 2 * i → i + l.length ≤ 10 → 0 ≤ all → all ≤ 100000 * i → lnG last all (loansG i l ++ [⟨99, 50000⟩]) = (all + sumB (loansG i l ++ [⟨99, 50000⟩]), true)
 | [], i, last, all, h1, h2, h3, h4 => by
  simp only [List.length_nil] at h2
  simp only [loansG, List.nil_append, lnG]
  rw [if_neg (by simp; omega)]
  simp [sumB]
 | z :: r, i, last, all, h1, h2, h3, h4 => by
  have w1 := wn_lo (x := z) (show (0 : Int) ≤ 100000 by decide)
  have w2 := wn_hi (x := z) (show (0 : Int) ≤ 100000 by decide)
  simp only [List.length_cons] at h2
  simp only [loansG, List.cons_append, lnG]
  rw [if_neg (by simp; omega), loansG_right r (i + 1) _ _ (by omega) (by omega) (by omega) (by push_cast; omega), sumB_cons]
  congr 1
  simp only
  omega
theorem loansK_right (k : KV) : lnF (loansK k) = (sumB (loansK k), true) := by
 have hl := loansK_len k
 unfold lnF
 rw [if_pos (by omega)]
 have := loansG_right (k.lo.take 10) 0 0 0 (by omega) (by simp; omega) (by omega) (by omega)
 simpa [loansK, loansF] using this
theorem sumB_app (a b : List R2) : sumB (a ++ b) = sumB a + sumB b := by simp [sumB]
theorem loansK_sum (k : KV) : 50000 ≤ sumB (loansK k) ∧ sumB (loansK k) ≤ 1100000 := by
 have h1 := sumB_b (loansF k.lo) (loansG_b _ _)
 have h2 := sumB_b (loansK k) (loansK_b k)
 have h3 := loansK_len k
 have h4 : sumB (loansK k) = sumB (loansF k.lo) + 50000 := by rw [loansK, sumB_app]; simp [sumB]
 omega
def sumO (l : List R3) : Int := (l.map (·.b)).sum
theorem ntG_right {most c : Int} : ∀ (l : List R3) (all : Int), (∀ x ∈ l, (0 ≤ x.a ∧ x.a ≤ 7) ∧ (1 ≤ x.b ∧ x.b ≤ c) ∧ (0 ≤ x.c ∧ x.c ≤ 5000)) → all + l.length * c ≤ most → 0 ≤ c → ntG most all l = (all + sumO l, true)
 | [], all, h, hm, hc => by simp [ntG, sumO]
 | x :: r, all, h, hm, hc => by
  obtain ⟨h1, h2, h3⟩ := h x (by simp)
  have e : ((x :: r).length : Int) * c = (r.length : Int) * c + c := by
   simp only [List.length_cons]; push_cast; rw [Int.add_mul, Int.one_mul]
  rw [e] at hm
  have hn : 0 ≤ (r.length : Int) * c := Int.mul_nonneg (by omega) hc
  have ok : ntOk most all x := ⟨h1, ⟨h2.1, by omega⟩, h3⟩
  simp only [ntG]
  rw [if_neg (fun q => q ok), ntG_right r (all + x.b) (fun y hy => h y (by simp [hy])) (by omega) hc]
  simp only [sumO, List.map_cons, List.sum_cons]
  rw [Int.add_assoc]
theorem notesF_len (no ra rt : List Int) (p : Int) : 1 ≤ (notesF no ra rt p).length ∧ (notesF no ra rt p).length ≤ 5 := by
 simp [notesF]; omega
theorem notesF_right {no ra rt : List Int} {p : Int} (hp : 50000 ≤ p) : ntF p (notesF no ra rt p) = (sumO (notesF no ra rt p), true) := by
 have hl := notesF_len no ra rt p
 have hd : Int.tdiv p 6 = p / 6 := Int.tdiv_eq_ediv_of_nonneg (by omega)
 unfold ntF
 rw [if_pos (by omega)]
 have := ntG_right (most := p) (c := 1 + p / 6) (notesF no ra rt p) 0 (fun x hx => by
  simp only [notesF, List.mem_map] at hx
  obtain ⟨i, _, rfl⟩ := hx
  have a1 := wn_lo (x := pk ra i) (show (0 : Int) ≤ 3 by decide)
  have a2 := wn_hi (x := pk ra i) (show (0 : Int) ≤ 3 by decide)
  have b1 := wn_lo (x := pk no i) (show (0 : Int) ≤ Int.tdiv p 6 by omega)
  have b2 := wn_hi (x := pk no i) (show (0 : Int) ≤ Int.tdiv p 6 by omega)
  have c1 := wn_lo (x := pk rt i) (show (0 : Int) ≤ 1200 by decide)
  have c2 := wn_hi (x := pk rt i) (show (0 : Int) ≤ 1200 by decide)
  simp only [noteAt]
  refine ⟨⟨a1, ?_⟩, ⟨?_, ?_⟩, c1, ?_⟩ <;> omega) (by
   have h5 : ((notesF no ra rt p).length : Int) * (1 + p / 6) ≤ 5 * (1 + p / 6) := Int.mul_le_mul_of_nonneg_right (by omega) (by omega)
   omega) (by omega)
 simpa using this
theorem trm_right (k : KV) : trmB (dealF k) = true := by
 have key : ∀ (x lo hi lo' hi' : Int), lo ≤ hi → lo' ≤ lo → hi ≤ hi' → wB (wn x lo hi) lo' hi' = true := fun x lo hi lo' hi' h1 h2 h3 => by
  have a := wn_lo (x := x) h1
  have b := wn_hi (x := x) h1
  exact wB_t.2 ⟨by omega, by omega⟩
 simp only [trmB, dealF, key _ _ _ _ _ (by decide : (0:Int) ≤ 12000) (by decide : (0:Int) ≤ 0) (by decide : (12000:Int) ≤ 100000)]
 rw [key _ 0 15000 0 100000 (by decide) (by decide) (by decide), key _ 0 5000 0 100000 (by decide) (by decide) (by decide), key _ 0 5000 0 100000 (by decide) (by decide) (by decide), key _ 0 3000 0 100000 (by decide) (by decide) (by decide),
  key _ 1990 2040 1 9000 (by decide) (by decide) (by decide), key _ 1 12 1 12 (by decide) (by decide) (by decide), key _ 0 2 0 2 (by decide) (by decide) (by decide), key _ 0 200 0 5000 (by decide) (by decide) (by decide),
  key _ 0 5000 0 1099511627776 (by decide) (by decide) (by decide), key _ 0 500 0 10000 (by decide) (by decide) (by decide), key _ 0 3000 0 1099511627776 (by decide) (by decide) (by decide), key _ 0 3 0 600 (by decide) (by decide) (by decide)]
 rfl
theorem deal_but (k : KV) (s0 s1 s2 : List R2) : rightB { dealF k with s0 := s0, s1 := s1, s2 := s2 } = (stpF s0 && stpF s1 && stpF s2) := by
 have h1 : lnF (dealF k).l = (sumB (loansK k), true) := loansK_right k
 have h2 : ntF (sumB (loansK k)) (dealF k).n = (sumO (dealF k).n, true) := notesF_right (loansK_sum k).1
 have h3 : trmB { dealF k with s0 := s0, s1 := s1, s2 := s2 } = true := trm_right k
 simp only [rightB, h1, h2, h3, Bool.true_and]
theorem deal_right (k : KV) : rightB (dealF k) = true := by
 have := deal_but k (dealF k).s0 (dealF k).s1 (dealF k).s2
 rw [show stpF (dealF k).s0 = true from stepsF_right _, show stpF (dealF k).s1 = true from stepsF_right _, show stpF (dealF k).s2 = true from stepsF_right _] at this
 exact this
end K
end Go.Proofs.Ytgdojnamjkhknaa
