/-
  dealdoc, plain: a deal of any numbers comes back out of its bytes, or is told.
-/
import Derived.Test.YtgdojnamjkhknaaQdDp
namespace Go.Proofs.Ytgdojnamjkhknaa
open Go.Am
set_option linter.all false
namespace DZ
open WB (byt byt_len)
open WI (intsF okI)
open RD (nx mny doneB)
open D (DV rightB)
open DE (dealI flat2 flat3 stepsI headI encD)
open DR (dealR rows2 rows3 row2 row3 stp stt val)
open DU (decD dv0)
theorem mny_ok {m : Int} {n : Nat} (r : List Int) (h : (n : Int) ≤ m) : mny m ((n : Int) :: r) false = ((n : Int), r, false) := by
 unfold mny
 rw [show nx ((n : Int) :: r) false = ((n : Int), r, false) from rfl]
 rw [if_neg (by dsimp only; omega)]
theorem rows2_ok : ∀ (l : List R2) (r : List Int), rows2 l.length (flat2 l ++ r) false = (l, r, false)
 | [], r => rfl
 | x :: l, r => by
  have e : row2 (flat2 (x :: l) ++ r) false = (x, flat2 l ++ r, false) := rfl
  simp only [List.length_cons, rows2]
  rw [e]
  dsimp only
  rw [rows2_ok l r]
theorem rows3_ok : ∀ (l : List R3) (r : List Int), rows3 l.length (flat3 l ++ r) false = (l, r, false)
 | [], r => rfl
 | x :: l, r => by
  have e : row3 (flat3 (x :: l) ++ r) false = (x, flat3 l ++ r, false) := rfl
  simp only [List.length_cons, rows3]
  rw [e]
  dsimp only
  rw [rows3_ok l r]
theorem stp_ok {s : List R2} (h : s.length ≤ 16) (r : List Int) : stp (stepsI s ++ r) false = (s, r, false) := by
 unfold stp
 rw [show stepsI s ++ r = (s.length : Int) :: (flat2 s ++ r) from rfl, mny_ok _ (by omega), Int.toNat_natCast]
 exact rows2_ok s r
theorem mny_bad {m : Int} (hm : 0 ≤ m) (l : List Int) : mny m l true = (0, l, true) := by
 unfold mny
 rw [show nx l true = (0, l, true) from rfl, if_neg (by dsimp only; omega)]
theorem stp_bad (l : List Int) : stp l true = ([], l, true) := by
 unfold stp
 rw [mny_bad (by decide)]
 rfl
theorem mny_over {m : Int} {n : Nat} (r : List Int) (h : m < (n : Int)) : mny m ((n : Int) :: r) false = (0, r, true) := by
 unfold mny
 rw [show nx ((n : Int) :: r) false = ((n : Int), r, false) from rfl]
 rw [if_pos (by dsimp only; omega)]
structure Bnd (d : DV) : Prop where
 l : d.l.length ≤ 64
 n : d.n.length ≤ 8
 s0 : d.s0.length ≤ 16
 s1 : d.s1.length ≤ 16
 s2 : d.s2.length ≤ 16
theorem dealI_eq (d : DV) : dealI d = headI d ++ ((d.l.length : Int) :: (flat2 d.l ++ ((d.n.length : Int) :: (flat3 d.n ++ (stepsI d.s0 ++ (stepsI d.s1 ++ (stepsI d.s2 ++ []))))))) := by
 simp [dealI]
theorem stt_head (d : DV) (R : List Int) : stt (headI d ++ R) false 13 = (R, false) := rfl
theorem dealR_ok {d : DV} (b : Bnd d) : dealR (dealI d) false = (d, [], false) := by
 rw [dealI_eq]
 unfold dealR
 rw [stt_head]
 dsimp only
 rw [mny_ok _ (by have := b.l; omega)]
 dsimp only
 rw [Int.toNat_natCast, rows2_ok]
 dsimp only
 rw [mny_ok _ (by have := b.n; omega)]
 dsimp only
 rw [Int.toNat_natCast, rows3_ok]
 dsimp only
 rw [stp_ok b.s0]
 dsimp only
 rw [stp_ok b.s1]
 dsimp only
 rw [stp_ok b.s2]
 rfl
theorem dealR_bad {d : DV} (hl : d.l.length ≤ 64) (hn : 8 < d.n.length) : (dealR (dealI d) false).2.2 = true := by
 rw [dealI_eq]
 unfold dealR
 rw [stt_head]
 dsimp only
 rw [mny_ok _ (by omega)]
 dsimp only
 rw [Int.toNat_natCast, rows2_ok]
 dsimp only
 rw [mny_over _ (by omega)]
 dsimp only
 rw [show ∀ l, rows3 (Int.toNat 0) l true = ([], l, true) from fun _ => rfl]
 dsimp only
 rw [stp_bad]
 dsimp only
 rw [stp_bad]
 dsimp only
 rw [stp_bad]
theorem decD_byt {d : DV} (h : ∀ z ∈ dealI d, In64 z) (b : Bnd d) : decD (byt (dealI d)) = if rightB d then (d, 0) else (dv0, 2) := by
 unfold decD
 rw [WI.okI_byt, if_pos rfl, WI.intsF_byt h, dealR_ok b]
 rfl
theorem decD_over {d : DV} (h : ∀ z ∈ dealI d, In64 z) (hl : d.l.length ≤ 64) (hn : 8 < d.n.length) : decD (byt (dealI d)) = (dv0, 1) := by
 unfold decD
 rw [WI.okI_byt, if_pos rfl, WI.intsF_byt h]
 unfold doneB
 rw [dealR_bad hl hn]
 rfl
theorem right_bnd {d : DV} (h : rightB d = true) : Bnd d := by
 simp only [rightB, Bool.and_eq_true] at h
 obtain ⟨⟨⟨⟨⟨h1, h2⟩, _⟩, h3⟩, h4⟩, h5⟩ := h
 have st : ∀ {s : List R2}, D.stpF s = true → s.length ≤ 16 := fun {s} q => by
  unfold D.stpF at q
  split at q
  ·rename_i g; exact g.2
  ·cases q
 refine ⟨?_, ?_, st h3, st h4, st h5⟩
 ·unfold D.A.lnF at h1
  split at h1
  ·rename_i g; exact g.2
  ·cases h1
 ·unfold D.ntF at h2
  split at h2
  ·rename_i g; exact g.2
  ·cases h2
structure DIn (d : DV) : Prop where
 h : ∀ z ∈ headI d, In64 z
 l : ∀ x ∈ d.l, In64 x.a ∧ In64 x.b
 n : ∀ x ∈ d.n, In64 x.a ∧ In64 x.b ∧ In64 x.c
 s0 : ∀ x ∈ d.s0, In64 x.a ∧ In64 x.b
 s1 : ∀ x ∈ d.s1, In64 x.a ∧ In64 x.b
 s2 : ∀ x ∈ d.s2, In64 x.a ∧ In64 x.b
theorem flat2_in {l : List R2} (h : ∀ x ∈ l, In64 x.a ∧ In64 x.b) : ∀ z ∈ flat2 l, In64 z := by
 intro z hz
 simp only [flat2, List.mem_flatMap, List.mem_cons, List.not_mem_nil, or_false] at hz
 obtain ⟨x, hx, rfl | rfl⟩ := hz
 ·exact (h x hx).1
 ·exact (h x hx).2
theorem flat3_in {l : List R3} (h : ∀ x ∈ l, In64 x.a ∧ In64 x.b ∧ In64 x.c) : ∀ z ∈ flat3 l, In64 z := by
 intro z hz
 simp only [flat3, List.mem_flatMap, List.mem_cons, List.not_mem_nil, or_false] at hz
 obtain ⟨x, hx, rfl | rfl | rfl⟩ := hz
 ·exact (h x hx).1
 ·exact (h x hx).2.1
 ·exact (h x hx).2.2
theorem dealI_in {d : DV} (h : DIn d) (c : d.l.length ≤ 1000000 ∧ d.n.length ≤ 1000000 ∧ d.s0.length ≤ 1000000 ∧ d.s1.length ≤ 1000000 ∧ d.s2.length ≤ 1000000) : ∀ z ∈ dealI d, In64 z := by
 intro z hz
 have k : ∀ {n : Nat}, n ≤ 1000000 → In64 (n : Int) := fun {n} q => ⟨by omega, by omega⟩
 simp only [dealI, stepsI, List.mem_append, List.mem_cons, List.not_mem_nil, or_false] at hz
 rcases hz with ((((((hz | rfl) | hz) | rfl) | hz) | (rfl | hz)) | (rfl | hz)) | (rfl | hz)
 ·exact h.h z hz
 ·exact k c.1
 ·exact flat2_in h.l z hz
 ·exact k c.2.1
 ·exact flat3_in h.n z hz
 ·exact k c.2.2.1
 ·exact flat2_in h.s0 z hz
 ·exact k c.2.2.2.1
 ·exact flat2_in h.s1 z hz
 ·exact k c.2.2.2.2
 ·exact flat2_in h.s2 z hz
theorem right_in {d : DV} (h : DIn d) (b : Bnd d) : ∀ z ∈ dealI d, In64 z := dealI_in h ⟨by have := b.l; omega, by have := b.n; omega, by have := b.s0; omega, by have := b.s1; omega, by have := b.s2; omega⟩
theorem enc_inj {d e : DV} (hd : DIn d) (he : DIn e) (rd : rightB d = true) (re : rightB e = true) (q : byt (dealI d) = byt (dealI e)) : d = e := by
 have h1 := decD_byt (right_in hd (right_bnd rd)) (right_bnd rd)
 have h2 := decD_byt (right_in he (right_bnd re)) (right_bnd re)
 rw [q, h2, if_pos rd, if_pos re] at h1
 exact (Prod.ext_iff.1 h1).1.symm
end DZ
end Go.Proofs.Ytgdojnamjkhknaa
