/-
  tapedoc, plain: a tape comes back out of its bytes.
-/
import Derived.Test.YtgdojnamjkhknaaDc
import Derived.Test.YtgdojnamjkhknaaTl

namespace Go.Proofs.Ytgdojnamjkhknaa
open Go.Am
set_option linter.all false
namespace TD
open WB (byt byt_len wd)
open WI (intsF okI)
open RD (nx mny doneB)
open TE (tapeOk tapeI tapeP lineI encF tapeOk_len tapeP_len)
open TP (tapeB rtF lineB)
open DC (lineR lnsR decF)
open TL (TN linesF lineAt idG)
theorem lineR_ok (x : R7) (r : List Int) : lineR (lineI x ++ r) false = (x, r, false) := by
  obtain ⟨a, b, c, d, e, f, g⟩ := x
  cases g <;> rfl
theorem lnsR_ok : ∀ (l : List R7) (r : List Int), lnsR l.length (l.flatMap lineI ++ r) false = (l, r, false)
  | [], r => rfl
  | x :: l, r => by
    simp only [List.flatMap_cons, List.length_cons, lnsR, List.append_assoc]
    rw [lineR_ok]
    dsimp only
    rw [lnsR_ok l r]
theorem lineI_in {x : R7} (h : x.in64) : ∀ z ∈ lineI x, In64 z := by
  obtain ⟨h1, h2, h3, h4, h5, h6⟩ := h
  intro z hz
  simp only [lineI, List.mem_cons, List.not_mem_nil, or_false] at hz
  rcases hz with rfl | rfl | rfl | rfl | rfl | rfl | rfl
  · exact h1
  · exact h2
  · exact h3
  · exact h4
  · exact h5
  · exact h6
  · split <;> exact ⟨by decide, by decide⟩
theorem tapeI_in {p : Int} {l : List R7} (hp : In64 p) (hn : l.length ≤ 64) (hl : ∀ x ∈ l, x.in64) : ∀ z ∈ tapeI p l, In64 z := by
  intro z hz
  simp only [tapeI, tapeP, List.mem_cons, List.mem_flatMap] at hz
  rcases hz with rfl | rfl | ⟨x, hx, hz⟩
  · exact hp
  · exact ⟨by omega, by omega⟩
  · exact lineI_in (hl x hx) z hz
/-- A tape comes back; one that may not be is told. -/
theorem decF_byt {p : Int} {l : List R7} (hp : In64 p) (hn : l.length ≤ 64) (hl : ∀ x ∈ l, x.in64) : decF (byt (tapeI p l)) = if tapeOk p l then (p, l, 0) else (0, [], 3) := by
  unfold decF
  rw [WI.okI_byt, if_pos rfl, WI.intsF_byt (tapeI_in hp hn hl)]
  have e1 : nx (tapeI p l) false = (p, (l.length : Int) :: l.flatMap lineI, false) := rfl
  have e2 : mny 64 ((l.length : Int) :: l.flatMap lineI) false = ((l.length : Int), l.flatMap lineI, false) := by
    unfold mny
    rw [show nx ((l.length : Int) :: l.flatMap lineI) false = ((l.length : Int), l.flatMap lineI, false) from rfl]
    rw [if_neg (by dsimp only; omega)]
  have e3 : lnsR l.length (l.flatMap lineI) false = (l, [], false) := by simpa using lnsR_ok l []
  rw [e1]
  dsimp only
  rw [e2]
  dsimp only
  rw [Int.toNat_natCast, e3]
  rfl
theorem tape_inj {p q : Int} {l m : List R7} (hp : In64 p) (hq : In64 q) (hn : l.length ≤ 64) (hm : m.length ≤ 64) (hl : ∀ x ∈ l, x.in64) (hk : ∀ x ∈ m, x.in64) (o1 : tapeOk p l = true) (o2 : tapeOk q m = true) (e : byt (tapeI p l) = byt (tapeI q m)) : p = q ∧ l = m := by
  have h1 := decF_byt hp hn hl
  have h2 := decF_byt hq hm hk
  rw [e, h2, if_pos o2, if_pos o1] at h1
  simp only [Prod.mk.injEq, and_true] at h1
  exact ⟨h1.1.symm, h1.2.symm⟩
/-! ### A tape of numbers is right -/
theorem lineAt_in (k : TN) (i : Nat) (hi : i ≤ 1000) : (lineAt k i).in64 := by
  have h := TL.idG_b k.l (i + 1)
  have w : ∀ (x hi : Int), 0 ≤ hi → hi ≤ 1099511627776 → In64 (wn x 0 hi) := fun x hi h1 h2 => by
    have a := wn_lo (x := x) (lo := 0) (hi := hi) h1
    have b := wn_hi (x := x) (lo := 0) (hi := hi) h1
    exact ⟨by omega, by omega⟩
  exact ⟨⟨by simp only [lineAt]; omega, by simp only [lineAt]; omega⟩, w _ _ (by decide) (by decide), w _ _ (by decide) (by decide), w _ _ (by decide) (by decide), w _ _ (by decide) (by decide), w _ _ (by decide) (by decide)⟩
theorem linesF_in (k : TN) : ∀ x ∈ linesF k, x.in64 := by
  intro x hx
  simp only [linesF, List.mem_map, List.mem_range] at hx
  obtain ⟨i, hi, rfl⟩ := hx
  exact lineAt_in k i (by omega)
theorem lineAt_ok (k : TN) (i : Nat) : lineB (lineAt k i) = true := by
  rw [TP.lineB_iff]
  have lo : ∀ (x hi : Int), 0 ≤ hi → 0 ≤ wn x 0 hi := fun x hi h => wn_lo h
  have up : ∀ (x hi : Int), 0 ≤ hi → wn x 0 hi ≤ hi := fun x hi h => wn_hi h
  refine ⟨⟨lo _ _ (by decide), up _ _ (by decide)⟩, ⟨lo _ _ (by decide), Int.le_trans (up _ _ (by decide)) (by decide)⟩, ⟨lo _ _ (by decide), up _ _ (by decide)⟩, ⟨lo _ _ (by decide), Int.le_trans (up _ _ (by decide)) (by decide)⟩, lo _ _ (by decide), up _ _ (by decide)⟩
theorem rtF_ok (k : TN) : ∀ (n i : Nat), rtF (idG k.l i) ((List.range' i n).map (lineAt k)) = true
  | 0, _ => rfl
  | n + 1, i => by
    have h := wn_lo (x := PK.pk k.l i) (lo := 0) (hi := 3) (by decide)
    simp only [List.range'_succ, List.map_cons, rtF, lineAt_ok, if_true]
    have e : (lineAt k i).a = idG k.l i + 1 + wn (PK.pk k.l i) 0 3 := rfl
    rw [if_neg (by omega)]
    exact rtF_ok k n (i + 1)
theorem linesF_ok (k : TN) : tapeB (linesF k) = true := by
  have h := TL.linesF_len k
  unfold tapeB
  rw [if_neg (by omega), linesF, List.range_eq_range']
  exact rtF_ok k _ 0
theorem tapeOk_k {m : Int} (k : TN) (h1 : 1 ≤ m) (h2 : m ≤ 600) : tapeOk m (linesF k) = true := by
  simp [tapeOk, linesF_ok, h1, h2]
theorem wn600 (x : Int) : 1 ≤ wn x 1 600 ∧ wn x 1 600 ≤ 600 := ⟨wn_lo (by decide), wn_hi (by decide)⟩
/-- Numbers of which a tape is made, among the arguments. -/
theorem tn_of {H : Heap} {a : Value} (h : ArgOk H true [.s 1 [.i .i64], .s 1 [.i .i64], .s 1 [.i .i64], .s 1 [.i .i64], .s 1 [.i .i64], .s 1 [.i .i64]] a) : ∃ vs k, a = .agg ⟨vs⟩ ∧ TL.TNOk H k vs := by
  unfold ArgOk at h
  rw [if_pos rfl] at h
  obtain ⟨A, rfl, h⟩ := h
  cases h with
  | cons h0 h => cases h with
    | cons h1 h => cases h with
      | cons h2 h => cases h with
        | cons h3 h => cases h with
          | cons h4 h => cases h with
            | cons h5 h => cases h with
              | nil =>
                obtain ⟨z0, r0, _⟩ := lt_ints h0
                obtain ⟨z1, r1, _⟩ := lt_ints h1
                obtain ⟨z2, r2, _⟩ := lt_ints h2
                obtain ⟨z3, r3, _⟩ := lt_ints h3
                obtain ⟨z4, r4, _⟩ := lt_ints h4
                obtain ⟨z5, r5, _⟩ := lt_ints h5
                exact ⟨_, ⟨z0, z1, z2, z3, z4, z5⟩, rfl, ⟨_, _, _, _, _, _, rfl, r0, r1, r2, r3, r4, r5⟩⟩
end TD
end Go.Proofs.Ytgdojnamjkhknaa
