/-
  dealdoc: a deal out of a reader: put together.
-/
import Derived.Test.YtgdojnamjkhknaaQdDr
namespace Go.Proofs.Ytgdojnamjkhknaa
open Go.Am
set_option linter.all false
set_option maxRecDepth 100000
namespace DR
open DE (dB dZ dX dD)
open RD (nx mny rdB)
open D (DV DlW dVal)
def At (w g : Nat) (Y : Heap) (v : Value) (rows : List (List Value)) : Prop := ∀ G R : Heap, G.length = g → RowsW w (G ++ (Y ++ R)) v rows
theorem At.more {w g : Nat} {Y : Heap} {v : Value} {rows : List (List Value)} (a : At w g Y v rows) (Z : Heap) : At w g (Y ++ Z) v rows := fun G R e => by
 have := a G (Z ++ R) e
 simpa using this
theorem At.ls {w : Nat} {H Y K : Heap} {v : Value} {rows : List (List Value)} {g : Nat} (h : LsS w H K v rows) (hp : 0 < w) (hg : H.length = g + Y.length) : At w g (Y ++ K) v rows := fun G R e => by
 have := (h.base (H' := G ++ Y) (by simp; omega)).rows hp R
 simpa using this
theorem stL {A B F : Heap} {h0 h1 h2 h3 h4 h5 h6 h7 h8 h9 h10 h11 h12 : Int} {v : Value} {l : List Int} {b : Bool} {K : Post2} (h0_ : RowsW 1 A v (l.map ir))
  (fin : ∀ (v3 : Value) (J : Heap) (aw : Option Addr) (cw : Nat), RowsW 1 A v3 ((rows2 (mny 64 l b).1.toNat (mny 64 l b).2.1 (mny 64 l b).2.2).2.1.map ir) → At 2 (A.length + 1 + B.length + 1 + 1) (F ++ J) (.slice aw (rows2 (mny 64 l b).1.toNat (mny 64 l b).2.1 (mny 64 l b).2.2).1.length cw) ((rows2 (mny 64 l b).1.toNat (mny 64 l b).2.1 (mny 64 l b).2.2).1.map e2) → Wp (Plain.env [] (gE 0)) (resLv il92.res) r92_2 (denF [.seg A, rdB v3 (rows2 (mny 64 l b).1.toNat (mny 64 l b).2.1 (mny 64 l b).2.2).2.2, .seg B, dZ, (dB h0 h1 h2 (rS aw (rows2 (mny 64 l b).1.toNat (mny 64 l b).2.1 (mny 64 l b).2.2).1.length cw) nS h3 h4 h5 h6 h7 h8 h9 h10 h11 h12 nS nS nS), .seg (F ++ J)] (frS 100 [(0, (.ptr 1 0)), (2, (.ptr 3 0)), (3, (.ptr 4 0))])) (denH [.seg A, rdB v3 (rows2 (mny 64 l b).1.toNat (mny 64 l b).2.1 (mny 64 l b).2.2).2.2, .seg B, dZ, (dB h0 h1 h2 (rS aw (rows2 (mny 64 l b).1.toNat (mny 64 l b).2.1 (mny 64 l b).2.2).1.length cw) nS h3 h4 h5 h6 h7 h8 h9 h10 h11 h12 nS nS nS), .seg (F ++ J)]) K) :
  Wp (Plain.env [] (gE 0)) (resLv il92.res) r92_1 (denF [.seg A, rdB v b, .seg B, dZ, (dB h0 h1 h2 nS nS h3 h4 h5 h6 h7 h8 h9 h10 h11 h12 nS nS nS), .seg F] (frS 100 [(0, (.ptr 1 0)), (2, (.ptr 3 0)), (3, (.ptr 4 0))])) (denH [.seg A, rdB v b, .seg B, dZ, (dB h0 h1 h2 nS nS h3 h4 h5 h6 h7 h8 h9 h10 h11 h12 nS nS nS), .seg F]) K := by
 have eb : cb92_1 = .block 2 (.loop body92_2) := by kernel_rfl
 have hA : RowsW 1 (denH [.seg A]) v (l.map ir) := by simpa [denH, denL, It.den] using h0_
 obtain ⟨v1, p1, rM⟩ := RD.M.use25 (I1 := [.seg A]) rfl [.seg B, dZ, (dB h0 h1 h2 nS nS h3 h4 h5 h6 h7 h8 h9 h10 h11 h12 nS nS nS), .seg F] (bad := b) 64 hA
 have hk := mny_b 64 (by decide) l b
 obtain ⟨n, hn⟩ : ∃ n : Nat, (n : Int) = (mny 64 l b).1 := ⟨(mny 64 l b).1.toNat, by omega⟩
 have hn' : (mny 64 l b).1.toNat = n := by omega
 rw [hn'] at fin
 rw [← hn] at rM
 obtain ⟨v3, J, aw, cw, w1, q1, q2⟩ := lpL (F := F) (B := B) (A := A) (h0 := h0) (h1 := h1) (h2 := h2) (h3 := h3) (h4 := h4) (h5 := h5) (h6 := h6) (h7 := h7) (h8 := h8) (h9 := h9) (h10 := h10) (h11 := h11) (h12 := h12) (n := n) (by simpa [denH, denL, It.den] using p1) (by omega)
 have ln : (rows2 n (mny 64 l b).2.1 (mny 64 l b).2.2).1.length = n := rows2_len _ _ _
 rw [ln] at fin
 have hat : At 2 (A.length + 1 + B.length + 1 + 1) (F ++ J) (.slice aw n cw) ((rows2 n (mny 64 l b).2.1 (mny 64 l b).2.2).1.map e2) := At.ls q2 (by decide) (by simp [denH, denL, It.den]; omega)
 refine Wp.split' (n := 0) (p := c92_1) (q := r92_2) (lv' := fun i => (exL i r92_2 || resLv il92.res i)) (by kernel_rfl) (fun i q => q) ?_
 refine Wp.split' (n := 0) (p := ca92_1) (q := cb92_1) (lv' := fun i => exL i cb92_1 || (exL i r92_2 || resLv il92.res i)) (by kernel_rfl) (fun i q => q) ?_
 refine Wp.tree (cE_ok 0) (tree92l h0 h1 h2 h3 h4 h5 h6 h7 h8 h9 h10 h11 h12 n none 0 0 v v1 b (mny 64 l b).2.2 A B F) ⟨rfl, rfl⟩ ⟨call (args := [_, _]) rM, ?_⟩
 show Wp (Plain.env [] (gE 0)) (fun i => (exL i r92_2 || resLv il92.res i)) cb92_1 _ _ _
 rw [eb]
 refine w1.mono fun e s h ⟨r1, r2, r3⟩ => ?_
 subst r1 r2 r3
 have := fin v3 J aw cw q1 hat
 have e1 : denH [.seg A, rdB v3 (rows2 n (mny 64 l b).2.1 (mny 64 l b).2.2).2.2, .seg B, dZ, (dB h0 h1 h2 (rS aw n cw) nS h3 h4 h5 h6 h7 h8 h9 h10 h11 h12 nS nS nS), .seg F, .seg J] = denH [.seg A, rdB v3 (rows2 n (mny 64 l b).2.1 (mny 64 l b).2.2).2.2, .seg B, dZ, (dB h0 h1 h2 (rS aw n cw) nS h3 h4 h5 h6 h7 h8 h9 h10 h11 h12 nS nS nS), .seg (F ++ J)] := by simp [denH, denL, It.den, den0]
 have e2 : denF [.seg A, rdB v3 (rows2 n (mny 64 l b).2.1 (mny 64 l b).2.2).2.2, .seg B, dZ, (dB h0 h1 h2 (rS aw n cw) nS h3 h4 h5 h6 h7 h8 h9 h10 h11 h12 nS nS nS), .seg F, .seg J] (frS 100 [(0, (.ptr 1 0)), (2, (.ptr 3 0)), (3, (.ptr 4 0))]) = denF [.seg A, rdB v3 (rows2 n (mny 64 l b).2.1 (mny 64 l b).2.2).2.2, .seg B, dZ, (dB h0 h1 h2 (rS aw n cw) nS h3 h4 h5 h6 h7 h8 h9 h10 h11 h12 nS nS nS), .seg (F ++ J)] (frS 100 [(0, (.ptr 1 0)), (2, (.ptr 3 0)), (3, (.ptr 4 0))]) := by show denF _ _ = denF _ _; kernel_rfl
 show Wp (Plain.env [] (gE 0)) (resLv il92.res) r92_2 _ _ K
 rw [e1, e2]
 exact this
theorem stN {A B F : Heap} {h0 h1 h2 h3 h4 h5 h6 h7 h8 h9 h10 h11 h12 : Int} {al : Option Addr} {nl cl : Nat} {v : Value} {l : List Int} {b : Bool} {K : Post2} (h0_ : RowsW 1 A v (l.map ir))
  (fin : ∀ (v3 : Value) (J : Heap) (aw : Option Addr) (cw : Nat), RowsW 1 A v3 ((rows3 (mny 8 l b).1.toNat (mny 8 l b).2.1 (mny 8 l b).2.2).2.1.map ir) → At 3 (A.length + 1 + B.length + 1 + 1) (F ++ J) (.slice aw (rows3 (mny 8 l b).1.toNat (mny 8 l b).2.1 (mny 8 l b).2.2).1.length cw) ((rows3 (mny 8 l b).1.toNat (mny 8 l b).2.1 (mny 8 l b).2.2).1.map e3) → Wp (Plain.env [] (gE 0)) (resLv il92.res) r92_3 (denF [.seg A, rdB v3 (rows3 (mny 8 l b).1.toNat (mny 8 l b).2.1 (mny 8 l b).2.2).2.2, .seg B, dZ, (dB h0 h1 h2 (rS al nl cl) (rS aw (rows3 (mny 8 l b).1.toNat (mny 8 l b).2.1 (mny 8 l b).2.2).1.length cw) h3 h4 h5 h6 h7 h8 h9 h10 h11 h12 nS nS nS), .seg (F ++ J)] (frS 100 [(0, (.ptr 1 0)), (2, (.ptr 3 0)), (3, (.ptr 4 0))])) (denH [.seg A, rdB v3 (rows3 (mny 8 l b).1.toNat (mny 8 l b).2.1 (mny 8 l b).2.2).2.2, .seg B, dZ, (dB h0 h1 h2 (rS al nl cl) (rS aw (rows3 (mny 8 l b).1.toNat (mny 8 l b).2.1 (mny 8 l b).2.2).1.length cw) h3 h4 h5 h6 h7 h8 h9 h10 h11 h12 nS nS nS), .seg (F ++ J)]) K) :
  Wp (Plain.env [] (gE 0)) (resLv il92.res) r92_2 (denF [.seg A, rdB v b, .seg B, dZ, (dB h0 h1 h2 (rS al nl cl) nS h3 h4 h5 h6 h7 h8 h9 h10 h11 h12 nS nS nS), .seg F] (frS 100 [(0, (.ptr 1 0)), (2, (.ptr 3 0)), (3, (.ptr 4 0))])) (denH [.seg A, rdB v b, .seg B, dZ, (dB h0 h1 h2 (rS al nl cl) nS h3 h4 h5 h6 h7 h8 h9 h10 h11 h12 nS nS nS), .seg F]) K := by
 have eb : cb92_2 = .block 4 (.loop body92_4) := by kernel_rfl
 have hA : RowsW 1 (denH [.seg A]) v (l.map ir) := by simpa [denH, denL, It.den] using h0_
 obtain ⟨v1, p1, rM⟩ := RD.M.use25 (I1 := [.seg A]) rfl [.seg B, dZ, (dB h0 h1 h2 (rS al nl cl) nS h3 h4 h5 h6 h7 h8 h9 h10 h11 h12 nS nS nS), .seg F] (bad := b) 8 hA
 have hk := mny_b 8 (by decide) l b
 obtain ⟨n, hn⟩ : ∃ n : Nat, (n : Int) = (mny 8 l b).1 := ⟨(mny 8 l b).1.toNat, by omega⟩
 have hn' : (mny 8 l b).1.toNat = n := by omega
 rw [hn'] at fin
 rw [← hn] at rM
 obtain ⟨v3, J, aw, cw, w1, q1, q2⟩ := lpN (F := F) (B := B) (A := A) (h0 := h0) (h1 := h1) (h2 := h2) (h3 := h3) (h4 := h4) (h5 := h5) (h6 := h6) (h7 := h7) (h8 := h8) (h9 := h9) (h10 := h10) (h11 := h11) (h12 := h12) (al := al) (nl := nl) (cl := cl) (n := n) (by simpa [denH, denL, It.den] using p1) (by omega)
 have ln : (rows3 n (mny 8 l b).2.1 (mny 8 l b).2.2).1.length = n := rows3_len _ _ _
 rw [ln] at fin
 have hat : At 3 (A.length + 1 + B.length + 1 + 1) (F ++ J) (.slice aw n cw) ((rows3 n (mny 8 l b).2.1 (mny 8 l b).2.2).1.map e3) := At.ls q2 (by decide) (by simp [denH, denL, It.den]; omega)
 refine Wp.split' (n := 0) (p := c92_2) (q := r92_3) (lv' := fun i => (exL i r92_3 || resLv il92.res i)) (by kernel_rfl) (fun i q => q) ?_
 refine Wp.split' (n := 0) (p := ca92_2) (q := cb92_2) (lv' := fun i => exL i cb92_2 || (exL i r92_3 || resLv il92.res i)) (by kernel_rfl) (fun i q => q) ?_
 refine Wp.tree (cE_ok 0) (tree92n h0 h1 h2 h3 h4 h5 h6 h7 h8 h9 h10 h11 h12 n al nl cl v v1 b (mny 8 l b).2.2 A B F) ⟨rfl, rfl⟩ ⟨call (args := [_, _]) rM, ?_⟩
 show Wp (Plain.env [] (gE 0)) (fun i => (exL i r92_3 || resLv il92.res i)) cb92_2 _ _ _
 rw [eb]
 refine w1.mono fun e s h ⟨r1, r2, r3⟩ => ?_
 subst r1 r2 r3
 have := fin v3 J aw cw q1 hat
 have e1 : denH [.seg A, rdB v3 (rows3 n (mny 8 l b).2.1 (mny 8 l b).2.2).2.2, .seg B, dZ, (dB h0 h1 h2 (rS al nl cl) (rS aw n cw) h3 h4 h5 h6 h7 h8 h9 h10 h11 h12 nS nS nS), .seg F, .seg J] = denH [.seg A, rdB v3 (rows3 n (mny 8 l b).2.1 (mny 8 l b).2.2).2.2, .seg B, dZ, (dB h0 h1 h2 (rS al nl cl) (rS aw n cw) h3 h4 h5 h6 h7 h8 h9 h10 h11 h12 nS nS nS), .seg (F ++ J)] := by simp [denH, denL, It.den, den0]
 have e2 : denF [.seg A, rdB v3 (rows3 n (mny 8 l b).2.1 (mny 8 l b).2.2).2.2, .seg B, dZ, (dB h0 h1 h2 (rS al nl cl) (rS aw n cw) h3 h4 h5 h6 h7 h8 h9 h10 h11 h12 nS nS nS), .seg F, .seg J] (frS 100 [(0, (.ptr 1 0)), (2, (.ptr 3 0)), (3, (.ptr 4 0))]) = denF [.seg A, rdB v3 (rows3 n (mny 8 l b).2.1 (mny 8 l b).2.2).2.2, .seg B, dZ, (dB h0 h1 h2 (rS al nl cl) (rS aw n cw) h3 h4 h5 h6 h7 h8 h9 h10 h11 h12 nS nS nS), .seg (F ++ J)] (frS 100 [(0, (.ptr 1 0)), (2, (.ptr 3 0)), (3, (.ptr 4 0))]) := by show denF _ _ = denF _ _; kernel_rfl
 show Wp (Plain.env [] (gE 0)) (resLv il92.res) r92_3 _ _ K
 rw [e1, e2]
 exact this
theorem tn0 {A B F : Heap} {h0 h1 h2 h3 h4 h5 h6 h7 h8 h9 h10 h11 h12 : Int} {al an : Option Addr} {nl cl nn cn : Nat} {v : Value} {l : List Int} {b : Bool} (h0_ : RowsW 1 A v (l.map ir)) :
  ∃ (v3 : Value) (J : Heap) (aw : Option Addr) (cw : Nat), RowsW 1 A v3 ((rows2 (mny 16 l b).1.toNat (mny 16 l b).2.1 (mny 16 l b).2.2).2.1.map ir) ∧ At 2 (A.length + 1 + B.length + 1 + 1) (F ++ J) (.slice aw (rows2 (mny 16 l b).1.toNat (mny 16 l b).2.1 (mny 16 l b).2.2).1.length cw) ((rows2 (mny 16 l b).1.toNat (mny 16 l b).2.1 (mny 16 l b).2.2).1.map e2) ∧
   Wp (Plain.env [] (gE 0)) (fun i => exL i body92_6 || (exL i r92_4 || resLv il92.res i)) body92_6 (denF [.seg A, rdB v b, .seg B, dZ, (dB h0 h1 h2 (rS al nl cl) (rS an nn cn) h3 h4 h5 h6 h7 h8 h9 h10 h11 h12 nS nS nS), .seg F] (frS 100 [(0, (.ptr 1 0)), (2, (.ptr 3 0)), (3, (.ptr 4 0)), (75, (sI 0))])) (denH [.seg A, rdB v b, .seg B, dZ, (dB h0 h1 h2 (rS al nl cl) (rS an nn cn) h3 h4 h5 h6 h7 h8 h9 h10 h11 h12 nS nS nS), .seg F]) fun e s h => e = .normal ∧ s = denF [.seg A, rdB v3 (rows2 (mny 16 l b).1.toNat (mny 16 l b).2.1 (mny 16 l b).2.2).2.2, .seg B, dZ, (dB h0 h1 h2 (rS al nl cl) (rS an nn cn) h3 h4 h5 h6 h7 h8 h9 h10 h11 h12 (rS aw (rows2 (mny 16 l b).1.toNat (mny 16 l b).2.1 (mny 16 l b).2.2).1.length cw) nS nS), .seg (F ++ J)] (frS 100 [(0, (.ptr 1 0)), (2, (.ptr 3 0)), (3, (.ptr 4 0)), (75, (sI 1))]) ∧ h = denH [.seg A, rdB v3 (rows2 (mny 16 l b).1.toNat (mny 16 l b).2.1 (mny 16 l b).2.2).2.2, .seg B, dZ, (dB h0 h1 h2 (rS al nl cl) (rS an nn cn) h3 h4 h5 h6 h7 h8 h9 h10 h11 h12 (rS aw (rows2 (mny 16 l b).1.toNat (mny 16 l b).2.1 (mny 16 l b).2.2).1.length cw) nS nS), .seg (F ++ J)] := by
 have hA : RowsW 1 (denH [.seg A]) v (l.map ir) := by simpa [denH, denL, It.den] using h0_
 obtain ⟨v1, p1, rM⟩ := RD.M.use25 (I1 := [.seg A]) rfl [.seg B, dZ, (dB h0 h1 h2 (rS al nl cl) (rS an nn cn) h3 h4 h5 h6 h7 h8 h9 h10 h11 h12 nS nS nS), .seg F] (bad := b) 16 hA
 have hk := mny_b 16 (by decide) l b
 obtain ⟨n, hn⟩ : ∃ n : Nat, (n : Int) = (mny 16 l b).1 := ⟨(mny 16 l b).1.toNat, by omega⟩
 have hn' : (mny 16 l b).1.toNat = n := by omega
 rw [hn']
 rw [← hn] at rM
 obtain ⟨v3, J, aw, cw, w1, q1, q2⟩ := lpS0 (F := F) (B := B) (A := A) (h0 := h0) (h1 := h1) (h2 := h2) (h3 := h3) (h4 := h4) (h5 := h5) (h6 := h6) (h7 := h7) (h8 := h8) (h9 := h9) (h10 := h10) (h11 := h11) (h12 := h12) (al := al) (an := an) (nl := nl) (cl := cl) (nn := nn) (cn := cn) (n := n) (by simpa [denH, denL, It.den] using p1) (by omega)
 have ln : (rows2 n (mny 16 l b).2.1 (mny 16 l b).2.2).1.length = n := rows2_len _ _ _
 rw [ln]
 refine ⟨v3, J, aw, cw, q1, At.ls q2 (by decide) (by simp [denH, denL, It.den]; omega), ?_⟩
 refine Wp.tree (cE_ok 0) (tree92t60 h0 h1 h2 h3 h4 h5 h6 h7 h8 h9 h10 h11 h12 n al an aw none none nl cl nn cn n cw 0 0 0 0 v v1 v3 b (mny 16 l b).2.2 (rows2 n (mny 16 l b).2.1 (mny 16 l b).2.2).2.2 A B F J) ⟨rfl, rfl⟩ ⟨call (args := [_, _]) rM, w1, rfl, ?_, by simp [denH, denL, It.den, den0]⟩
 show denF _ _ = denF _ _
 kernel_rfl
theorem tn1 {A B F : Heap} {h0 h1 h2 h3 h4 h5 h6 h7 h8 h9 h10 h11 h12 : Int} {al an a0 : Option Addr} {nl cl nn cn n0 c0 : Nat} {v : Value} {l : List Int} {b : Bool} (h0_ : RowsW 1 A v (l.map ir)) :
  ∃ (v3 : Value) (J : Heap) (aw : Option Addr) (cw : Nat), RowsW 1 A v3 ((rows2 (mny 16 l b).1.toNat (mny 16 l b).2.1 (mny 16 l b).2.2).2.1.map ir) ∧ At 2 (A.length + 1 + B.length + 1 + 1) (F ++ J) (.slice aw (rows2 (mny 16 l b).1.toNat (mny 16 l b).2.1 (mny 16 l b).2.2).1.length cw) ((rows2 (mny 16 l b).1.toNat (mny 16 l b).2.1 (mny 16 l b).2.2).1.map e2) ∧
   Wp (Plain.env [] (gE 0)) (fun i => exL i body92_6 || (exL i r92_4 || resLv il92.res i)) body92_6 (denF [.seg A, rdB v b, .seg B, dZ, (dB h0 h1 h2 (rS al nl cl) (rS an nn cn) h3 h4 h5 h6 h7 h8 h9 h10 h11 h12 (rS a0 n0 c0) nS nS), .seg F] (frS 100 [(0, (.ptr 1 0)), (2, (.ptr 3 0)), (3, (.ptr 4 0)), (75, (sI 1))])) (denH [.seg A, rdB v b, .seg B, dZ, (dB h0 h1 h2 (rS al nl cl) (rS an nn cn) h3 h4 h5 h6 h7 h8 h9 h10 h11 h12 (rS a0 n0 c0) nS nS), .seg F]) fun e s h => e = .normal ∧ s = denF [.seg A, rdB v3 (rows2 (mny 16 l b).1.toNat (mny 16 l b).2.1 (mny 16 l b).2.2).2.2, .seg B, dZ, (dB h0 h1 h2 (rS al nl cl) (rS an nn cn) h3 h4 h5 h6 h7 h8 h9 h10 h11 h12 (rS a0 n0 c0) (rS aw (rows2 (mny 16 l b).1.toNat (mny 16 l b).2.1 (mny 16 l b).2.2).1.length cw) nS), .seg (F ++ J)] (frS 100 [(0, (.ptr 1 0)), (2, (.ptr 3 0)), (3, (.ptr 4 0)), (75, (sI 2))]) ∧ h = denH [.seg A, rdB v3 (rows2 (mny 16 l b).1.toNat (mny 16 l b).2.1 (mny 16 l b).2.2).2.2, .seg B, dZ, (dB h0 h1 h2 (rS al nl cl) (rS an nn cn) h3 h4 h5 h6 h7 h8 h9 h10 h11 h12 (rS a0 n0 c0) (rS aw (rows2 (mny 16 l b).1.toNat (mny 16 l b).2.1 (mny 16 l b).2.2).1.length cw) nS), .seg (F ++ J)] := by
 have hA : RowsW 1 (denH [.seg A]) v (l.map ir) := by simpa [denH, denL, It.den] using h0_
 obtain ⟨v1, p1, rM⟩ := RD.M.use25 (I1 := [.seg A]) rfl [.seg B, dZ, (dB h0 h1 h2 (rS al nl cl) (rS an nn cn) h3 h4 h5 h6 h7 h8 h9 h10 h11 h12 (rS a0 n0 c0) nS nS), .seg F] (bad := b) 16 hA
 have hk := mny_b 16 (by decide) l b
 obtain ⟨n, hn⟩ : ∃ n : Nat, (n : Int) = (mny 16 l b).1 := ⟨(mny 16 l b).1.toNat, by omega⟩
 have hn' : (mny 16 l b).1.toNat = n := by omega
 rw [hn']
 rw [← hn] at rM
 obtain ⟨v3, J, aw, cw, w1, q1, q2⟩ := lpS1 (F := F) (B := B) (A := A) (h0 := h0) (h1 := h1) (h2 := h2) (h3 := h3) (h4 := h4) (h5 := h5) (h6 := h6) (h7 := h7) (h8 := h8) (h9 := h9) (h10 := h10) (h11 := h11) (h12 := h12) (al := al) (an := an) (a0 := a0) (nl := nl) (cl := cl) (nn := nn) (cn := cn) (n0 := n0) (c0 := c0) (n := n) (by simpa [denH, denL, It.den] using p1) (by omega)
 have ln : (rows2 n (mny 16 l b).2.1 (mny 16 l b).2.2).1.length = n := rows2_len _ _ _
 rw [ln]
 refine ⟨v3, J, aw, cw, q1, At.ls q2 (by decide) (by simp [denH, denL, It.den]; omega), ?_⟩
 refine Wp.tree (cE_ok 0) (tree92t61 h0 h1 h2 h3 h4 h5 h6 h7 h8 h9 h10 h11 h12 n al an a0 aw none nl cl nn cn n0 c0 n cw 0 0 v v1 v3 b (mny 16 l b).2.2 (rows2 n (mny 16 l b).2.1 (mny 16 l b).2.2).2.2 A B F J) ⟨rfl, rfl⟩ ⟨call (args := [_, _]) rM, w1, rfl, ?_, by simp [denH, denL, It.den, den0]⟩
 show denF _ _ = denF _ _
 kernel_rfl
theorem tn2 {A B F : Heap} {h0 h1 h2 h3 h4 h5 h6 h7 h8 h9 h10 h11 h12 : Int} {al an a0 a1 : Option Addr} {nl cl nn cn n0 c0 n1 c1 : Nat} {v : Value} {l : List Int} {b : Bool} (h0_ : RowsW 1 A v (l.map ir)) :
  ∃ (v3 : Value) (J : Heap) (aw : Option Addr) (cw : Nat), RowsW 1 A v3 ((rows2 (mny 16 l b).1.toNat (mny 16 l b).2.1 (mny 16 l b).2.2).2.1.map ir) ∧ At 2 (A.length + 1 + B.length + 1 + 1) (F ++ J) (.slice aw (rows2 (mny 16 l b).1.toNat (mny 16 l b).2.1 (mny 16 l b).2.2).1.length cw) ((rows2 (mny 16 l b).1.toNat (mny 16 l b).2.1 (mny 16 l b).2.2).1.map e2) ∧
   Wp (Plain.env [] (gE 0)) (fun i => exL i body92_6 || (exL i r92_4 || resLv il92.res i)) body92_6 (denF [.seg A, rdB v b, .seg B, dZ, (dB h0 h1 h2 (rS al nl cl) (rS an nn cn) h3 h4 h5 h6 h7 h8 h9 h10 h11 h12 (rS a0 n0 c0) (rS a1 n1 c1) nS), .seg F] (frS 100 [(0, (.ptr 1 0)), (2, (.ptr 3 0)), (3, (.ptr 4 0)), (75, (sI 2))])) (denH [.seg A, rdB v b, .seg B, dZ, (dB h0 h1 h2 (rS al nl cl) (rS an nn cn) h3 h4 h5 h6 h7 h8 h9 h10 h11 h12 (rS a0 n0 c0) (rS a1 n1 c1) nS), .seg F]) fun e s h => e = .normal ∧ s = denF [.seg A, rdB v3 (rows2 (mny 16 l b).1.toNat (mny 16 l b).2.1 (mny 16 l b).2.2).2.2, .seg B, dZ, (dB h0 h1 h2 (rS al nl cl) (rS an nn cn) h3 h4 h5 h6 h7 h8 h9 h10 h11 h12 (rS a0 n0 c0) (rS a1 n1 c1) (rS aw (rows2 (mny 16 l b).1.toNat (mny 16 l b).2.1 (mny 16 l b).2.2).1.length cw)), .seg (F ++ J)] (frS 100 [(0, (.ptr 1 0)), (2, (.ptr 3 0)), (3, (.ptr 4 0)), (75, (sI 3))]) ∧ h = denH [.seg A, rdB v3 (rows2 (mny 16 l b).1.toNat (mny 16 l b).2.1 (mny 16 l b).2.2).2.2, .seg B, dZ, (dB h0 h1 h2 (rS al nl cl) (rS an nn cn) h3 h4 h5 h6 h7 h8 h9 h10 h11 h12 (rS a0 n0 c0) (rS a1 n1 c1) (rS aw (rows2 (mny 16 l b).1.toNat (mny 16 l b).2.1 (mny 16 l b).2.2).1.length cw)), .seg (F ++ J)] := by
 have hA : RowsW 1 (denH [.seg A]) v (l.map ir) := by simpa [denH, denL, It.den] using h0_
 obtain ⟨v1, p1, rM⟩ := RD.M.use25 (I1 := [.seg A]) rfl [.seg B, dZ, (dB h0 h1 h2 (rS al nl cl) (rS an nn cn) h3 h4 h5 h6 h7 h8 h9 h10 h11 h12 (rS a0 n0 c0) (rS a1 n1 c1) nS), .seg F] (bad := b) 16 hA
 have hk := mny_b 16 (by decide) l b
 obtain ⟨n, hn⟩ : ∃ n : Nat, (n : Int) = (mny 16 l b).1 := ⟨(mny 16 l b).1.toNat, by omega⟩
 have hn' : (mny 16 l b).1.toNat = n := by omega
 rw [hn']
 rw [← hn] at rM
 obtain ⟨v3, J, aw, cw, w1, q1, q2⟩ := lpS2 (F := F) (B := B) (A := A) (h0 := h0) (h1 := h1) (h2 := h2) (h3 := h3) (h4 := h4) (h5 := h5) (h6 := h6) (h7 := h7) (h8 := h8) (h9 := h9) (h10 := h10) (h11 := h11) (h12 := h12) (al := al) (an := an) (a0 := a0) (a1 := a1) (nl := nl) (cl := cl) (nn := nn) (cn := cn) (n0 := n0) (c0 := c0) (n1 := n1) (c1 := c1) (n := n) (by simpa [denH, denL, It.den] using p1) (by omega)
 have ln : (rows2 n (mny 16 l b).2.1 (mny 16 l b).2.2).1.length = n := rows2_len _ _ _
 rw [ln]
 refine ⟨v3, J, aw, cw, q1, At.ls q2 (by decide) (by simp [denH, denL, It.den]; omega), ?_⟩
 refine Wp.tree (cE_ok 0) (tree92t62 h0 h1 h2 h3 h4 h5 h6 h7 h8 h9 h10 h11 h12 n al an a0 a1 aw nl cl nn cn n0 c0 n1 c1 n cw v v1 v3 b (mny 16 l b).2.2 (rows2 n (mny 16 l b).2.1 (mny 16 l b).2.2).2.2 A B F J) ⟨rfl, rfl⟩ ⟨call (args := [_, _]) rM, w1, rfl, ?_, by simp [denH, denL, It.den, den0]⟩
 show denF _ _ = denF _ _
 kernel_rfl
def stp (l : List Int) (b : Bool) : List R2 × List Int × Bool := rows2 (mny 16 l b).1.toNat (mny 16 l b).2.1 (mny 16 l b).2.2
theorem six {A B F : Heap} {h0 h1 h2 h3 h4 h5 h6 h7 h8 h9 h10 h11 h12 : Int} {al an : Option Addr} {nl cl nn cn : Nat} {v : Value} {l : List Int} {b : Bool} {K : Post2} (h0_ : RowsW 1 A v (l.map ir))
  (fin : ∀ (v3 : Value) (F3 : Heap) (a0 a1 a2 : Option Addr) (c0 c1 c2 : Nat) (s0 s1 s2 : List R2 × List Int × Bool), s0 = stp l b → s1 = stp s0.2.1 s0.2.2 → s2 = stp s1.2.1 s1.2.2 → RowsW 1 A v3 (s2.2.1.map ir) → (∃ J, F3 = F ++ J) →
   At 2 (A.length + 1 + B.length + 1 + 1) F3 (.slice a0 s0.1.length c0) (s0.1.map e2) → At 2 (A.length + 1 + B.length + 1 + 1) F3 (.slice a1 s1.1.length c1) (s1.1.map e2) → At 2 (A.length + 1 + B.length + 1 + 1) F3 (.slice a2 s2.1.length c2) (s2.1.map e2) →
   Wp (Plain.env [] (gE 0)) (resLv il92.res) r92_4 (denF [.seg A, rdB v3 s2.2.2, .seg B, dZ, (dB h0 h1 h2 (rS al nl cl) (rS an nn cn) h3 h4 h5 h6 h7 h8 h9 h10 h11 h12 (rS a0 s0.1.length c0) (rS a1 s1.1.length c1) (rS a2 s2.1.length c2)), .seg F3] (frS 100 [(2, (.ptr 3 0)), (3, (.ptr 4 0))])) (denH [.seg A, rdB v3 s2.2.2, .seg B, dZ, (dB h0 h1 h2 (rS al nl cl) (rS an nn cn) h3 h4 h5 h6 h7 h8 h9 h10 h11 h12 (rS a0 s0.1.length c0) (rS a1 s1.1.length c1) (rS a2 s2.1.length c2)), .seg F3]) K) :
  Wp (Plain.env [] (gE 0)) (resLv il92.res) r92_3 (denF [.seg A, rdB v b, .seg B, dZ, (dB h0 h1 h2 (rS al nl cl) (rS an nn cn) h3 h4 h5 h6 h7 h8 h9 h10 h11 h12 nS nS nS), .seg F] (frS 100 [(0, (.ptr 1 0)), (2, (.ptr 3 0)), (3, (.ptr 4 0))])) (denH [.seg A, rdB v b, .seg B, dZ, (dB h0 h1 h2 (rS al nl cl) (rS an nn cn) h3 h4 h5 h6 h7 h8 h9 h10 h11 h12 nS nS nS), .seg F]) K := by
 have eb : cb92_3 = .block 6 (.loop body92_6) := by kernel_rfl
 obtain ⟨v1, J1, a0, c0, p1, q1, w1⟩ := tn0 (F := F) (B := B) (A := A) (h0 := h0) (h1 := h1) (h2 := h2) (h3 := h3) (h4 := h4) (h5 := h5) (h6 := h6) (h7 := h7) (h8 := h8) (h9 := h9) (h10 := h10) (h11 := h11) (h12 := h12) (al := al) (an := an) (nl := nl) (cl := cl) (nn := nn) (cn := cn) (b := b) h0_
 obtain ⟨s0, e0⟩ : ∃ s, s = stp l b := ⟨_, rfl⟩
 have e0' := e0
 unfold stp at e0'
 rw [← e0'] at p1 q1 w1
 obtain ⟨v2, J2, a1, c1, p2, q2, w2⟩ := tn1 (F := F ++ J1) (B := B) (A := A) (h0 := h0) (h1 := h1) (h2 := h2) (h3 := h3) (h4 := h4) (h5 := h5) (h6 := h6) (h7 := h7) (h8 := h8) (h9 := h9) (h10 := h10) (h11 := h11) (h12 := h12) (al := al) (an := an) (a0 := a0) (nl := nl) (cl := cl) (nn := nn) (cn := cn) (n0 := s0.1.length) (c0 := c0) (b := s0.2.2) p1
 obtain ⟨s1, e1⟩ : ∃ s, s = stp s0.2.1 s0.2.2 := ⟨_, rfl⟩
 have e1' := e1
 unfold stp at e1'
 rw [← e1'] at p2 q2 w2
 obtain ⟨v3, J3, a2, c2, p3, q3, w3⟩ := tn2 (F := F ++ J1 ++ J2) (B := B) (A := A) (h0 := h0) (h1 := h1) (h2 := h2) (h3 := h3) (h4 := h4) (h5 := h5) (h6 := h6) (h7 := h7) (h8 := h8) (h9 := h9) (h10 := h10) (h11 := h11) (h12 := h12) (al := al) (an := an) (a0 := a0) (a1 := a1) (nl := nl) (cl := cl) (nn := nn) (cn := cn) (n0 := s0.1.length) (c0 := c0) (n1 := s1.1.length) (c1 := c1) (b := s1.2.2) p2
 obtain ⟨s2, e2_⟩ : ∃ s, s = stp s1.2.1 s1.2.2 := ⟨_, rfl⟩
 have e2' := e2_
 unfold stp at e2'
 rw [← e2'] at p3 q3 w3
 have fin' := fin v3 (F ++ J1 ++ J2 ++ J3) a0 a1 a2 c0 c1 c2 s0 s1 s2 e0 e1 e2_ p3 ⟨J1 ++ J2 ++ J3, by simp⟩ ((q1.more J2).more J3) (q2.more J3) q3
 refine Wp.split' (n := 0) (p := c92_3) (q := r92_4) (lv' := fun i => (exL i r92_4 || resLv il92.res i)) (by kernel_rfl) (fun i q => q) ?_
 refine Wp.split' (n := 0) (p := ca92_3) (q := cb92_3) (lv' := fun i => exL i cb92_3 || (exL i r92_4 || resLv il92.res i)) (by kernel_rfl) (fun i q => q) ?_
 refine Wp.tree (cE_ok 0) (tree92s h0 h1 h2 h3 h4 h5 h6 h7 h8 h9 h10 h11 h12 al an nl cl nn cn v b A B F) ⟨rfl, rfl⟩ ?_
 show Wp (Plain.env [] (gE 0)) (fun i => (exL i r92_4 || resLv il92.res i)) cb92_3 _ _ _
 rw [eb]
 refine Wp.bl (fun k t h => (k = 3 ∧ t = denF [.seg A, rdB v b, .seg B, dZ, (dB h0 h1 h2 (rS al nl cl) (rS an nn cn) h3 h4 h5 h6 h7 h8 h9 h10 h11 h12 nS nS nS), .seg F] (frS 100 [(0, (.ptr 1 0)), (2, (.ptr 3 0)), (3, (.ptr 4 0)), (75, (sI 0))]) ∧ h = denH [.seg A, rdB v b, .seg B, dZ, (dB h0 h1 h2 (rS al nl cl) (rS an nn cn) h3 h4 h5 h6 h7 h8 h9 h10 h11 h12 nS nS nS), .seg F]) ∨ (k = 2 ∧ t = denF [.seg A, rdB v1 s0.2.2, .seg B, dZ, (dB h0 h1 h2 (rS al nl cl) (rS an nn cn) h3 h4 h5 h6 h7 h8 h9 h10 h11 h12 (rS a0 s0.1.length c0) nS nS), .seg (F ++ J1)] (frS 100 [(0, (.ptr 1 0)), (2, (.ptr 3 0)), (3, (.ptr 4 0)), (75, (sI 1))]) ∧ h = denH [.seg A, rdB v1 s0.2.2, .seg B, dZ, (dB h0 h1 h2 (rS al nl cl) (rS an nn cn) h3 h4 h5 h6 h7 h8 h9 h10 h11 h12 (rS a0 s0.1.length c0) nS nS), .seg (F ++ J1)]) ∨ (k = 1 ∧ t = denF [.seg A, rdB v2 s1.2.2, .seg B, dZ, (dB h0 h1 h2 (rS al nl cl) (rS an nn cn) h3 h4 h5 h6 h7 h8 h9 h10 h11 h12 (rS a0 s0.1.length c0) (rS a1 s1.1.length c1) nS), .seg (F ++ J1 ++ J2)] (frS 100 [(0, (.ptr 1 0)), (2, (.ptr 3 0)), (3, (.ptr 4 0)), (75, (sI 2))]) ∧ h = denH [.seg A, rdB v2 s1.2.2, .seg B, dZ, (dB h0 h1 h2 (rS al nl cl) (rS an nn cn) h3 h4 h5 h6 h7 h8 h9 h10 h11 h12 (rS a0 s0.1.length c0) (rS a1 s1.1.length c1) nS), .seg (F ++ J1 ++ J2)]) ∨ (k = 0 ∧ t = denF [.seg A, rdB v3 s2.2.2, .seg B, dZ, (dB h0 h1 h2 (rS al nl cl) (rS an nn cn) h3 h4 h5 h6 h7 h8 h9 h10 h11 h12 (rS a0 s0.1.length c0) (rS a1 s1.1.length c1) (rS a2 s2.1.length c2)), .seg (F ++ J1 ++ J2 ++ J3)] (frS 100 [(0, (.ptr 1 0)), (2, (.ptr 3 0)), (3, (.ptr 4 0)), (75, (sI 3))]) ∧ h = denH [.seg A, rdB v3 s2.2.2, .seg B, dZ, (dB h0 h1 h2 (rS al nl cl) (rS an nn cn) h3 h4 h5 h6 h7 h8 h9 h10 h11 h12 (rS a0 s0.1.length c0) (rS a1 s1.1.length c1) (rS a2 s2.1.length c2)), .seg (F ++ J1 ++ J2 ++ J3)])) ?_ 3 _ _ (.inl ⟨rfl, rfl, rfl⟩)
 rintro k t h (⟨rfl, rfl, rfl⟩ | ⟨rfl, rfl, rfl⟩ | ⟨rfl, rfl, rfl⟩ | ⟨rfl, rfl, rfl⟩)
 ·exact w1.mono fun e t h ⟨r1, r2, r3⟩ => by subst r1; exact ⟨2, by decide, .inr (.inl ⟨rfl, r2, r3⟩)⟩
 ·exact w2.mono fun e t h ⟨r1, r2, r3⟩ => by subst r1; exact ⟨1, by decide, .inr (.inr (.inl ⟨rfl, r2, r3⟩))⟩
 ·exact w3.mono fun e t h ⟨r1, r2, r3⟩ => by subst r1; exact ⟨0, by decide, .inr (.inr (.inr ⟨rfl, r2, r3⟩))⟩
 ·refine Wp.tree (cE_ok 0) (tree92x h0 h1 h2 h3 h4 h5 h6 h7 h8 h9 h10 h11 h12 al an a0 a1 a2 nl cl nn cn s0.1.length c0 s1.1.length c1 s2.1.length c2 v3 s2.2.2 A B (F ++ J1 ++ J2 ++ J3)) ⟨rfl, rfl⟩ (end_exit ?_)
  exact fin'
def stt (l : List Int) (b : Bool) : Nat → List Int × Bool
 | 0 => (l, b)
 | k + 1 => (nx (stt l b k).1 (stt l b k).2).2
def val (l : List Int) (b : Bool) (k : Nat) : Int := (nx (stt l b k).1 (stt l b k).2).1
def dealR (l : List Int) (b : Bool) : DV × List Int × Bool :=
 let s := stt l b 13
 let k1 := mny 64 s.1 s.2
 let L := rows2 k1.1.toNat k1.2.1 k1.2.2
 let k2 := mny 8 L.2.1 L.2.2
 let N := rows3 k2.1.toNat k2.2.1 k2.2.2
 let s0 := stp N.2.1 N.2.2
 let s1 := stp s0.2.1 s0.2.2
 let s2 := stp s1.2.1 s1.2.2
 (⟨val l b 0, val l b 1, val l b 2, val l b 3, val l b 4, val l b 5, val l b 6, val l b 7, val l b 8, val l b 9, val l b 10, val l b 11, val l b 12, L.1, N.1, s0.1, s1.1, s2.1⟩, s2.2)
theorem sum92 : Summ Try.prog 92 (runE (Plain.env [] (gE 0)) il92) := Summ.runE mixed (gE_ok 0) (gE_q 0) st92
set_option maxHeartbeats 4000000 in
theorem run92 {A B : Heap} {v : Value} {l : List Int} {b : Bool} (h : RowsW 1 A v (l.map ir)) :
  ∃ (dv v3 : Value) (X : Heap), runE (Plain.env [] (gE 0)) il92 [.pointer (some ⟨A.length, 0, none⟩)] (A ++ some ⟨.fix, [v, .bool b]⟩ :: B) = some (dv, A ++ some ⟨.fix, [v3, .bool (dealR l b).2.2]⟩ :: (B ++ X)) ∧ RowsW 1 A v3 ((dealR l b).2.1.map ir) ∧ ∀ G R : Heap, G.length = A.length + 1 + B.length → DlW (G ++ (X ++ R)) dv (dealR l b).1 := by
 have hA : RowsW 1 (denH [.seg A]) v ((stt l b 0).1.map ir) := by simpa [denH, denL, It.den, stt] using h
 obtain ⟨v1, p1, r0⟩ := RD.N.use29 (I1 := [.seg A]) (l := (stt l b 0).1) rfl [.seg B, dZ, dZ, .blk .fix [.ptr 4 0, .ptr 4 1, .ptr 4 2, .ptr 4 5, .ptr 4 6, .ptr 4 7, .ptr 4 8, .ptr 4 9, .ptr 4 10, .ptr 4 11, .ptr 4 12, .ptr 4 13, .ptr 4 14]] (bad := (stt l b 0).2) hA
 obtain ⟨v2, p2, r1⟩ := RD.N.use29 (I1 := [.seg A]) (l := (stt l b 1).1) rfl [.seg B, dZ, (dB (val l b 0) 0 0 nS nS 0 0 0 0 0 0 0 0 0 0 nS nS nS), .blk .fix [.ptr 4 0, .ptr 4 1, .ptr 4 2, .ptr 4 5, .ptr 4 6, .ptr 4 7, .ptr 4 8, .ptr 4 9, .ptr 4 10, .ptr 4 11, .ptr 4 12, .ptr 4 13, .ptr 4 14]] (bad := (stt l b 1).2) p1
 obtain ⟨v3, p3, r2⟩ := RD.N.use29 (I1 := [.seg A]) (l := (stt l b 2).1) rfl [.seg B, dZ, (dB (val l b 0) (val l b 1) 0 nS nS 0 0 0 0 0 0 0 0 0 0 nS nS nS), .blk .fix [.ptr 4 0, .ptr 4 1, .ptr 4 2, .ptr 4 5, .ptr 4 6, .ptr 4 7, .ptr 4 8, .ptr 4 9, .ptr 4 10, .ptr 4 11, .ptr 4 12, .ptr 4 13, .ptr 4 14]] (bad := (stt l b 2).2) p2
 obtain ⟨v4, p4, r3⟩ := RD.N.use29 (I1 := [.seg A]) (l := (stt l b 3).1) rfl [.seg B, dZ, (dB (val l b 0) (val l b 1) (val l b 2) nS nS 0 0 0 0 0 0 0 0 0 0 nS nS nS), .blk .fix [.ptr 4 0, .ptr 4 1, .ptr 4 2, .ptr 4 5, .ptr 4 6, .ptr 4 7, .ptr 4 8, .ptr 4 9, .ptr 4 10, .ptr 4 11, .ptr 4 12, .ptr 4 13, .ptr 4 14]] (bad := (stt l b 3).2) p3
 obtain ⟨v5, p5, r4⟩ := RD.N.use29 (I1 := [.seg A]) (l := (stt l b 4).1) rfl [.seg B, dZ, (dB (val l b 0) (val l b 1) (val l b 2) nS nS (val l b 3) 0 0 0 0 0 0 0 0 0 nS nS nS), .blk .fix [.ptr 4 0, .ptr 4 1, .ptr 4 2, .ptr 4 5, .ptr 4 6, .ptr 4 7, .ptr 4 8, .ptr 4 9, .ptr 4 10, .ptr 4 11, .ptr 4 12, .ptr 4 13, .ptr 4 14]] (bad := (stt l b 4).2) p4
 obtain ⟨v6, p6, r5⟩ := RD.N.use29 (I1 := [.seg A]) (l := (stt l b 5).1) rfl [.seg B, dZ, (dB (val l b 0) (val l b 1) (val l b 2) nS nS (val l b 3) (val l b 4) 0 0 0 0 0 0 0 0 nS nS nS), .blk .fix [.ptr 4 0, .ptr 4 1, .ptr 4 2, .ptr 4 5, .ptr 4 6, .ptr 4 7, .ptr 4 8, .ptr 4 9, .ptr 4 10, .ptr 4 11, .ptr 4 12, .ptr 4 13, .ptr 4 14]] (bad := (stt l b 5).2) p5
 obtain ⟨v7, p7, r6⟩ := RD.N.use29 (I1 := [.seg A]) (l := (stt l b 6).1) rfl [.seg B, dZ, (dB (val l b 0) (val l b 1) (val l b 2) nS nS (val l b 3) (val l b 4) (val l b 5) 0 0 0 0 0 0 0 nS nS nS), .blk .fix [.ptr 4 0, .ptr 4 1, .ptr 4 2, .ptr 4 5, .ptr 4 6, .ptr 4 7, .ptr 4 8, .ptr 4 9, .ptr 4 10, .ptr 4 11, .ptr 4 12, .ptr 4 13, .ptr 4 14]] (bad := (stt l b 6).2) p6
 obtain ⟨v8, p8, r7⟩ := RD.N.use29 (I1 := [.seg A]) (l := (stt l b 7).1) rfl [.seg B, dZ, (dB (val l b 0) (val l b 1) (val l b 2) nS nS (val l b 3) (val l b 4) (val l b 5) (val l b 6) 0 0 0 0 0 0 nS nS nS), .blk .fix [.ptr 4 0, .ptr 4 1, .ptr 4 2, .ptr 4 5, .ptr 4 6, .ptr 4 7, .ptr 4 8, .ptr 4 9, .ptr 4 10, .ptr 4 11, .ptr 4 12, .ptr 4 13, .ptr 4 14]] (bad := (stt l b 7).2) p7
 obtain ⟨v9, p9, r8⟩ := RD.N.use29 (I1 := [.seg A]) (l := (stt l b 8).1) rfl [.seg B, dZ, (dB (val l b 0) (val l b 1) (val l b 2) nS nS (val l b 3) (val l b 4) (val l b 5) (val l b 6) (val l b 7) 0 0 0 0 0 nS nS nS), .blk .fix [.ptr 4 0, .ptr 4 1, .ptr 4 2, .ptr 4 5, .ptr 4 6, .ptr 4 7, .ptr 4 8, .ptr 4 9, .ptr 4 10, .ptr 4 11, .ptr 4 12, .ptr 4 13, .ptr 4 14]] (bad := (stt l b 8).2) p8
 obtain ⟨v10, p10, r9⟩ := RD.N.use29 (I1 := [.seg A]) (l := (stt l b 9).1) rfl [.seg B, dZ, (dB (val l b 0) (val l b 1) (val l b 2) nS nS (val l b 3) (val l b 4) (val l b 5) (val l b 6) (val l b 7) (val l b 8) 0 0 0 0 nS nS nS), .blk .fix [.ptr 4 0, .ptr 4 1, .ptr 4 2, .ptr 4 5, .ptr 4 6, .ptr 4 7, .ptr 4 8, .ptr 4 9, .ptr 4 10, .ptr 4 11, .ptr 4 12, .ptr 4 13, .ptr 4 14]] (bad := (stt l b 9).2) p9
 obtain ⟨v11, p11, r10⟩ := RD.N.use29 (I1 := [.seg A]) (l := (stt l b 10).1) rfl [.seg B, dZ, (dB (val l b 0) (val l b 1) (val l b 2) nS nS (val l b 3) (val l b 4) (val l b 5) (val l b 6) (val l b 7) (val l b 8) (val l b 9) 0 0 0 nS nS nS), .blk .fix [.ptr 4 0, .ptr 4 1, .ptr 4 2, .ptr 4 5, .ptr 4 6, .ptr 4 7, .ptr 4 8, .ptr 4 9, .ptr 4 10, .ptr 4 11, .ptr 4 12, .ptr 4 13, .ptr 4 14]] (bad := (stt l b 10).2) p10
 obtain ⟨v12, p12, r11⟩ := RD.N.use29 (I1 := [.seg A]) (l := (stt l b 11).1) rfl [.seg B, dZ, (dB (val l b 0) (val l b 1) (val l b 2) nS nS (val l b 3) (val l b 4) (val l b 5) (val l b 6) (val l b 7) (val l b 8) (val l b 9) (val l b 10) 0 0 nS nS nS), .blk .fix [.ptr 4 0, .ptr 4 1, .ptr 4 2, .ptr 4 5, .ptr 4 6, .ptr 4 7, .ptr 4 8, .ptr 4 9, .ptr 4 10, .ptr 4 11, .ptr 4 12, .ptr 4 13, .ptr 4 14]] (bad := (stt l b 11).2) p11
 obtain ⟨v13, p13, r12⟩ := RD.N.use29 (I1 := [.seg A]) (l := (stt l b 12).1) rfl [.seg B, dZ, (dB (val l b 0) (val l b 1) (val l b 2) nS nS (val l b 3) (val l b 4) (val l b 5) (val l b 6) (val l b 7) (val l b 8) (val l b 9) (val l b 10) (val l b 11) 0 nS nS nS), .blk .fix [.ptr 4 0, .ptr 4 1, .ptr 4 2, .ptr 4 5, .ptr 4 6, .ptr 4 7, .ptr 4 8, .ptr 4 9, .ptr 4 10, .ptr 4 11, .ptr 4 12, .ptr 4 13, .ptr 4 14]] (bad := (stt l b 12).2) p12
 obtain ⟨F0, eF⟩ : ∃ F0, F0 = denL (ofs ([.seg A, rdB v13 (stt l b 13).2, .seg B, dZ, (dB (val l b 0) (val l b 1) (val l b 2) nS nS (val l b 3) (val l b 4) (val l b 5) (val l b 6) (val l b 7) (val l b 8) (val l b 9) (val l b 10) (val l b 11) (val l b 12) nS nS nS)] ++ [.blk .fix [.ptr 4 0, .ptr 4 1, .ptr 4 2, .ptr 4 5, .ptr 4 6, .ptr 4 7, .ptr 4 8, .ptr 4 9, .ptr 4 10, .ptr 4 11, .ptr 4 12, .ptr 4 13, .ptr 4 14]])) [.blk .fix [.ptr 4 0, .ptr 4 1, .ptr 4 2, .ptr 4 5, .ptr 4 6, .ptr 4 7, .ptr 4 8, .ptr 4 9, .ptr 4 10, .ptr 4 11, .ptr 4 12, .ptr 4 13, .ptr 4 14]] := ⟨_, rfl⟩
 have w : Wp (Plain.env [] (gE 0)) (resLv il92.res) il92.body (denF [.seg A, rdB v b, .seg B] (frS 100 [(0, (.ptr 1 0))])) (denH [.seg A, rdB v b, .seg B]) fun e s h' => (e = .normal ∨ e = .ret) ∧ ∃ w, resA s h' il92.res = some w ∧ ∃ v3 X, h' = A ++ some ⟨.fix, [v3, .bool (dealR l b).2.2]⟩ :: (B ++ X) ∧ RowsW 1 A v3 ((dealR l b).2.1.map ir) ∧ ∀ G R : Heap, G.length = A.length + 1 + B.length → DlW (G ++ (X ++ R)) w (dealR l b).1 := by
  refine Wp.split' (n := 2) (p := c92_0) (q := r92_1) (lv' := fun i => (exL i r92_1 || resLv il92.res i)) (by kernel_rfl) (fun i q => q) ?_
  refine Wp.tree (cE_ok 0) (tree92p (val l b 0) (val l b 1) (val l b 2) (val l b 3) (val l b 4) (val l b 5) (val l b 6) (val l b 7) (val l b 8) (val l b 9) (val l b 10) (val l b 11) (val l b 12) v v1 v2 v3 v4 v5 v6 v7 v8 v9 v10 v11 v12 v13 b (stt l b 1).2 (stt l b 2).2 (stt l b 3).2 (stt l b 4).2 (stt l b 5).2 (stt l b 6).2 (stt l b 7).2 (stt l b 8).2 (stt l b 9).2 (stt l b 10).2 (stt l b 11).2 (stt l b 12).2 (stt l b 13).2 A B) ⟨rfl, rfl⟩ ⟨call (args := [_]) r0, call (args := [_]) r1, call (args := [_]) r2, call (args := [_]) r3, call (args := [_]) r4, call (args := [_]) r5, call (args := [_]) r6, call (args := [_]) r7, call (args := [_]) r8, call (args := [_]) r9, call (args := [_]) r10, call (args := [_]) r11, call (args := [_]) r12, ?_⟩
  show Wp (Plain.env [] (gE 0)) (resLv il92.res) r92_1 _ _ _
  have e1 : denH [.seg A, rdB v13 (stt l b 13).2, .seg B, dZ, (dB (val l b 0) (val l b 1) (val l b 2) nS nS (val l b 3) (val l b 4) (val l b 5) (val l b 6) (val l b 7) (val l b 8) (val l b 9) (val l b 10) (val l b 11) (val l b 12) nS nS nS), .blk .fix [.ptr 4 0, .ptr 4 1, .ptr 4 2, .ptr 4 5, .ptr 4 6, .ptr 4 7, .ptr 4 8, .ptr 4 9, .ptr 4 10, .ptr 4 11, .ptr 4 12, .ptr 4 13, .ptr 4 14]] = denH [.seg A, rdB v13 (stt l b 13).2, .seg B, dZ, (dB (val l b 0) (val l b 1) (val l b 2) nS nS (val l b 3) (val l b 4) (val l b 5) (val l b 6) (val l b 7) (val l b 8) (val l b 9) (val l b 10) (val l b 11) (val l b 12) nS nS nS), .seg F0] := by
   have a := denH_app (I := [.seg A, rdB v13 (stt l b 13).2, .seg B, dZ, (dB (val l b 0) (val l b 1) (val l b 2) nS nS (val l b 3) (val l b 4) (val l b 5) (val l b 6) (val l b 7) (val l b 8) (val l b 9) (val l b 10) (val l b 11) (val l b 12) nS nS nS)]) (J := [.blk .fix [.ptr 4 0, .ptr 4 1, .ptr 4 2, .ptr 4 5, .ptr 4 6, .ptr 4 7, .ptr 4 8, .ptr 4 9, .ptr 4 10, .ptr 4 11, .ptr 4 12, .ptr 4 13, .ptr 4 14]]) rfl
   have c := denH_snoc [.seg A, rdB v13 (stt l b 13).2, .seg B, dZ, (dB (val l b 0) (val l b 1) (val l b 2) nS nS (val l b 3) (val l b 4) (val l b 5) (val l b 6) (val l b 7) (val l b 8) (val l b 9) (val l b 10) (val l b 11) (val l b 12) nS nS nS)] rfl F0
   rw [eF] at c ⊢
   exact a.trans c.symm
  have e2 : denF [.seg A, rdB v13 (stt l b 13).2, .seg B, dZ, (dB (val l b 0) (val l b 1) (val l b 2) nS nS (val l b 3) (val l b 4) (val l b 5) (val l b 6) (val l b 7) (val l b 8) (val l b 9) (val l b 10) (val l b 11) (val l b 12) nS nS nS), .blk .fix [.ptr 4 0, .ptr 4 1, .ptr 4 2, .ptr 4 5, .ptr 4 6, .ptr 4 7, .ptr 4 8, .ptr 4 9, .ptr 4 10, .ptr 4 11, .ptr 4 12, .ptr 4 13, .ptr 4 14]] (frS 100 [(0, (.ptr 1 0)), (2, (.ptr 3 0)), (3, (.ptr 4 0))]) = denF [.seg A, rdB v13 (stt l b 13).2, .seg B, dZ, (dB (val l b 0) (val l b 1) (val l b 2) nS nS (val l b 3) (val l b 4) (val l b 5) (val l b 6) (val l b 7) (val l b 8) (val l b 9) (val l b 10) (val l b 11) (val l b 12) nS nS nS), .seg F0] (frS 100 [(0, (.ptr 1 0)), (2, (.ptr 3 0)), (3, (.ptr 4 0))]) := by show denF _ _ = denF _ _; kernel_rfl
  rw [e1, e2]
  refine stL (l := (stt l b 13).1) (by have := p13; rw [show denH [.seg A] = A by simp [denH, denL, It.den]] at this; exact this) fun v14 J1 al cl q1 t1 => ?_
  refine stN q1 fun v15 J2 an cn q2 t2 => ?_
  refine six q2 fun v16 F3 a0 a1 a2 c0 c1 c2 s0 s1 s2 g0 g1 g2 q3 gF u0 u1 u2 => ?_
  obtain ⟨J3, rfl⟩ := gF
  have L1 : (rows2 (mny 64 (stt l b 13).1 (stt l b 13).2).1.toNat (mny 64 (stt l b 13).1 (stt l b 13).2).2.1 (mny 64 (stt l b 13).1 (stt l b 13).2).2.2).1 = (dealR l b).1.l := rfl
  have L2 : (rows3 (mny 8 (rows2 (mny 64 (stt l b 13).1 (stt l b 13).2).1.toNat (mny 64 (stt l b 13).1 (stt l b 13).2).2.1 (mny 64 (stt l b 13).1 (stt l b 13).2).2.2).2.1 (rows2 (mny 64 (stt l b 13).1 (stt l b 13).2).1.toNat (mny 64 (stt l b 13).1 (stt l b 13).2).2.1 (mny 64 (stt l b 13).1 (stt l b 13).2).2.2).2.2).1.toNat (mny 8 (rows2 (mny 64 (stt l b 13).1 (stt l b 13).2).1.toNat (mny 64 (stt l b 13).1 (stt l b 13).2).2.1 (mny 64 (stt l b 13).1 (stt l b 13).2).2.2).2.1 (rows2 (mny 64 (stt l b 13).1 (stt l b 13).2).1.toNat (mny 64 (stt l b 13).1 (stt l b 13).2).2.1 (mny 64 (stt l b 13).1 (stt l b 13).2).2.2).2.2).2.1 (mny 8 (rows2 (mny 64 (stt l b 13).1 (stt l b 13).2).1.toNat (mny 64 (stt l b 13).1 (stt l b 13).2).2.1 (mny 64 (stt l b 13).1 (stt l b 13).2).2.2).2.1 (rows2 (mny 64 (stt l b 13).1 (stt l b 13).2).1.toNat (mny 64 (stt l b 13).1 (stt l b 13).2).2.1 (mny 64 (stt l b 13).1 (stt l b 13).2).2.2).2.2).2.2).1 = (dealR l b).1.n := rfl
  have L3 : s0.1 = (dealR l b).1.s0 := by subst g0; rfl
  have L4 : s1.1 = (dealR l b).1.s1 := by subst g0 g1; rfl
  have L5 : s2.1 = (dealR l b).1.s2 := by subst g0 g1 g2; rfl
  have L6 : s2.2 = (dealR l b).2 := by subst g0 g1 g2; rfl
  rw [L1] at t1 ⊢
  rw [L2] at t2 ⊢
  rw [L3] at u0 ⊢
  rw [L4] at u1 ⊢
  rw [L5] at u2 ⊢
  rw [L6] at q3 ⊢
  obtain ⟨d, eD⟩ : ∃ d, d = (dealR l b).1 := ⟨_, rfl⟩
  rw [← eD] at t1 t2 u0 u1 u2 ⊢
  have V : ∀ k (x : Int), x = val l b k → x = val l b k := fun _ _ h => h
  obtain ⟨D2, eD2⟩ : ∃ D2 : Option Blk, D2 = some ⟨.fix, (D.dVal al an a0 a1 a2 d.l.length cl d.n.length cn d.s0.length c0 d.s1.length c1 d.s2.length c2 d).cells.toList⟩ := ⟨_, rfl⟩
  have rows : ∀ (w : Nat) (v : Value) (rs : List (List Value)) (G R : Heap), G.length = A.length + 1 + B.length → At w (A.length + 1 + B.length + 1 + 1) (F0 ++ J1 ++ J2 ++ J3) v rs → RowsW w (G ++ ((D2 :: D2 :: (F0 ++ J1 ++ J2 ++ J3)) ++ R)) v rs := fun w v rs G R hG h => by
   have := h (G ++ [D2, D2]) R (by simp; omega)
   simpa using this
  refine Wp.tree (cE_ok 0) (tree92z (val l b 0) (val l b 1) (val l b 2) (val l b 3) (val l b 4) (val l b 5) (val l b 6) (val l b 7) (val l b 8) (val l b 9) (val l b 10) (val l b 11) (val l b 12) al an a0 a1 a2 d.l.length cl d.n.length cn d.s0.length c0 d.s1.length c1 d.s2.length c2 v16 (dealR l b).2.2 A B (F0 ++ J1 ++ J2 ++ J3)) ⟨rfl, rfl⟩ ⟨.inr rfl, D.dVal al an a0 a1 a2 d.l.length cl d.n.length cn d.s0.length c0 d.s1.length c1 d.s2.length c2 d, ?_, v16, D2 :: D2 :: (F0 ++ J1 ++ J2 ++ J3), ?_, q3, fun G R hG => ⟨al, an, a0, a1, a2, cl, cn, c0, c1, c2, rfl, rows _ _ _ G R hG ((t1.more J2).more J3), rows _ _ _ G R hG (t2.more J3), rows _ _ _ G R hG u0, rows _ _ _ G R hG u1, rows _ _ _ G R hG u2⟩⟩
  ·subst eD
   exact (resS_ok (v := .raw (D.dVal al an a0 a1 a2 (dealR l b).1.l.length cl (dealR l b).1.n.length cn (dealR l b).1.s0.length c0 (dealR l b).1.s1.length c1 (dealR l b).1.s2.length c2 (dealR l b).1)) (by kernel_rfl))
  ·subst eD2 eD
   simp [denH, denL, It.den, den0, D.dVal, Value.cells, dealR]
 have ef : [.pointer (some ⟨A.length, 0, none⟩)] ++ List.replicate (il92.ntmps - 1) undef = denF [.seg A, rdB v b, .seg B] (frS 100 [(0, (.ptr 1 0))]) := by kernel_rfl
 have eH : denH [.seg A, rdB v b, .seg B] = A ++ some ⟨.fix, [v, .bool b]⟩ :: B := by simp [denH, denL, It.den, den0]
 rw [← ef, eH] at w
 obtain ⟨dv, h', r, v3, X, rfl, q1, q2⟩ := Wp.run (F := il92) (args := [.pointer (some ⟨A.length, 0, none⟩)]) w
 exact ⟨dv, v3, X, r, q1, q2⟩
end DR
end Go.Proofs.Ytgdojnamjkhknaa
