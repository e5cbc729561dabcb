/-
  The law PoolPlays: which tape is played.
-/
import Derived.Test.YtgdojnamjkhknaaQbPq7
namespace Go.Proofs.Ytgdojnamjkhknaa
open Go.Am
set_option linter.all false
set_option maxRecDepth 100000
namespace PR
open PO (L5 A4 e5 e4 newL sumF wr e5_1 WF applyF nowOf lostOf pB)
open PO.KP (LsT TapesOk nb)
open TL (TN TNOk)
namespace L
def hn12h (ta ra la a1 : Option Addr) (tn ct rn rc n lc c1 : Nat) (at_ i : Int) (A B : Heap) : Hs := (.join 3 (.con (.con (.con .nil))) (.con (.con (.con .nil))) (.sym .nil .nil))
theorem tree12h (ta ra la a1 : Option Addr) (tn ct rn rc n lc c1 : Nat) (at_ i : Int) (A B : Heap) : pieceS tblK (gE 0) (cE 0) 100 (fun i => exL i (sndS body12_0) || (fun i => exL i body12_0 || inL [8] i) i) t12_h (hn12h ta ra la a1 tn ct rn rc n lc c1 at_ i A B) (frS 131 [(1, (rS ta tn ct)), (2, (rS ra rn rc)), (3, (sI at_)), (8, (sB false)), (10, (.ptr 1 0)), (11, (rS la n lc)), (12, (sI i))]) [.seg A, .blk .fix [(rS a1 n c1)], .seg B] =
(.req (bif (decide (i < (tn : Int))) then true else true) (.br (bif (decide (i < (tn : Int))) then (decide (i < 8)) else false)
 (.ret .normal (frS 131 [(1, (rS ta tn ct)), (2, (rS ra rn rc)), (3, (sI at_)), (8, (sB false)), (10, (.ptr 1 0)), (11, (rS la n lc)), (12, (sI i))]) [.seg A, .blk .fix [(rS a1 n c1)], .seg B])
 (.ret (.exit 0) (frS 131 [(1, (rS ta tn ct)), (2, (rS ra rn rc)), (3, (sI at_)), (8, (sB false)), (10, (.ptr 1 0)), (11, (rS la n lc)), (12, (sI i))]) [.seg A, .blk .fix [(rS a1 n c1)], .seg B]))) := by kernel_rfl
def hn12i (ta ra la a1 : Option Addr) (tn ct rn rc n lc c1 : Nat) (at_ i : Int) (A B : Heap) : Hs := .nil
theorem tree12i (ta ra la a1 : Option Addr) (tn ct rn rc n lc c1 : Nat) (at_ i : Int) (A B : Heap) : pieceS tblK (gE 0) (cE 0) 100 (fun i => exL i body12_0 || inL [8] i) t12_i (hn12i ta ra la a1 tn ct rn rc n lc c1 at_ i A B) (frS 131 [(1, (rS ta tn ct)), (2, (rS ra rn rc)), (3, (sI at_)), (8, (sB false)), (10, (.ptr 1 0)), (11, (rS la n lc)), (12, (sI i))]) [.seg A, .blk .fix [(rS a1 n c1)], .seg B] =
(.ret .normal (frS 131 [(1, (rS ta tn ct)), (2, (rS ra rn rc)), (3, (sI at_)), (8, (sB false)), (10, (.ptr 1 0)), (11, (rS la n lc)), (12, (sI (IntKind.wrap .i64 (i + 1))))]) [.seg A, .blk .fix [(rS a1 n c1)], .seg B]) := by kernel_rfl
def hn12s (ta ra la xa ya na oa a1 : Option Addr) (tn ct rn rc n lc m xc yc nc oc c1 b1 o1 : Nat) (u0 u1 u2 u3 u4 u5 : Value) (at_ i i3 : Int) (A B X1 X2 : Heap) : Hs := (.sym (.pur 32000077 (.int .i64 (m : Int)) (.bas 17000078 (.slice xa m xc) (.use 30000079 (rS ya m yc) ⟨[], [.seg X1]⟩ .nil))) (.pur 10000082 (.int .i64 i3) (.sym (.pur 22000086 (.pointer (some ⟨b1, o1, none⟩)) (.use 7000087 (.raw (.agg ⟨[u0, u1, u2, u3, u4, u5]⟩)) ⟨[], []⟩ (.use 26000088 (rS ya m yc) ⟨[], [.seg X1]⟩ .nil))) (.lp 3 [1, 2, 3, 8, 10, 11, 12, 13, 14, 15] (frS 131 [(1, (rS ta tn ct)), (2, (rS ra rn rc)), (3, (sI at_)), (8, (sB false)), (10, (.ptr 1 0)), (11, (rS la n lc)), (12, (sI i)), (13, nS), (14, (rS na n nc)), (15, (rS oa n oc))]) ⟨[], [.seg X2]⟩ (.pur 22000064 (.pointer (some ⟨b1, o1, none⟩)) (.use 7000065 (.raw (.agg ⟨[u0, u1, u2, u3, u4, u5]⟩)) ⟨[], []⟩ (.use 26000068 (rS ya m yc) ⟨[], [.seg X1]⟩ .nil)))))))
theorem tree12s (ta ra la xa ya na oa a1 : Option Addr) (tn ct rn rc n lc m xc yc nc oc c1 b1 o1 : Nat) (u0 u1 u2 u3 u4 u5 : Value) (at_ i i3 : Int) (A B X1 X2 : Heap) : pieceS tblK (gE 0) (cE 0) 300 (fun i => exL i t12_2 || (fun i => exL i t12_i || (fun i => exL i body12_0 || inL [8] i) i) i) t12_1 (hn12s ta ra la xa ya na oa a1 tn ct rn rc n lc m xc yc nc oc c1 b1 o1 u0 u1 u2 u3 u4 u5 at_ i i3 A B X1 X2) (frS 131 [(1, (rS ta tn ct)), (2, (rS ra rn rc)), (3, (sI at_)), (8, (sB false)), (10, (.ptr 1 0)), (11, (rS la n lc)), (12, (sI i))]) [.seg A, .blk .fix [(rS a1 n c1)], .seg B] =
(.br (i == at_)
 (.claim (opA (Plain.env tblK (gE 0)) (.mn (kI (rn : Int)) (kI 6)) [] [] = some ((.int .i64 (m : Int)), []))
 (.claim (opA (Plain.env tblK (gE 0)) (.slice 7 (.const (.slice ra rn rc)) none (some (kI (m : Int))) none) [] A = some ((.slice xa m xc), A))
 (.claim (opA (Plain.env tblK (gE 0)) (.append 7 56 (.const (.slice none 0 0)) (.const (.slice xa m xc))) [] (denH [.seg A, .blk .fix [(rS a1 n c1)], .seg B]) = some ((.slice ya m yc), denH [.seg A, .blk .fix [(rS a1 n c1)], .seg B, .seg X1]))
 (.ret .normal (frS 131 [(1, (rS ta tn ct)), (2, (rS ra rn rc)), (3, (sI at_)), (8, (sB false)), (10, (.ptr 1 0)), (11, (rS la n lc)), (12, (sI i)), (13, (rS ya m yc))]) [.seg A, .blk .fix [(rS a1 n c1)], .seg B, .seg X1]))))
 (.claim (opA (Plain.env tblK (gE 0)) (.bin .and (kI i) (kI 3)) [] [] = some ((.int .i64 i3), []))
 (.br (i3 == 3)
 (.claim (opA (Plain.env tblK (gE 0)) (.iadr 6 none (.const (.slice ta tn ct)) (kI i)) [] [] = some ((.pointer (some ⟨b1, o1, none⟩)), []))
 (.claim (opA (Plain.env tblK (gE 0)) (.load (.const (.pointer (some ⟨b1, o1, none⟩))) (some 6)) [] (denH [.seg A, .blk .fix [(rS a1 n c1)], .seg B]) = some ((.agg ⟨[u0, u1, u2, u3, u4, u5]⟩), denH [.seg A, .blk .fix [(rS a1 n c1)], .seg B]))
 (.claim (opA (Plain.env tblK (gE 0)) (.call 51 [(.const (.agg ⟨[u0, u1, u2, u3, u4, u5]⟩))]) [] (denH [.seg A, .blk .fix [(rS a1 n c1)], .seg B]) = some ((.slice ya m yc), denH [.seg A, .blk .fix [(rS a1 n c1)], .seg B, .seg X1]))
 (.ret .normal (frS 131 [(1, (rS ta tn ct)), (2, (rS ra rn rc)), (3, (sI at_)), (8, (sB false)), (10, (.ptr 1 0)), (11, (rS la n lc)), (12, (sI i)), (13, (rS ya m yc))]) [.seg A, .blk .fix [(rS a1 n c1)], .seg B, .seg X1]))))
 (.claim (Wp (Plain.env tblK (gE 0)) (inL [1, 2, 3, 8, 10, 11, 12, 13, 14, 15]) (.block 3 (.loop body12_3)) (denF [.seg A, .blk .fix [(rS a1 n c1)], .seg B] (frS 131 [(1, (rS ta tn ct)), (2, (rS ra rn rc)), (3, (sI at_)), (8, (sB false)), (10, (.ptr 1 0)), (11, (rS la n lc)), (12, (sI i)), (13, nS), (14, nS), (15, nS), (42, (rS la n lc)), (43, (sI (n : Int))), (44, (sI 0))])) (denH [.seg A, .blk .fix [(rS a1 n c1)], .seg B]) fun e_ s_ h_ => e_ = .normal ∧ s_ = denF [.seg A, .blk .fix [(rS a1 n c1)], .seg B, .seg X2] (frS 131 [(1, (rS ta tn ct)), (2, (rS ra rn rc)), (3, (sI at_)), (8, (sB false)), (10, (.ptr 1 0)), (11, (rS la n lc)), (12, (sI i)), (13, nS), (14, (rS na n nc)), (15, (rS oa n oc))]) ∧ h_ = denH [.seg A, .blk .fix [(rS a1 n c1)], .seg B, .seg X2])
 (.claim (opA (Plain.env tblK (gE 0)) (.iadr 6 none (.const (.slice ta tn ct)) (kI i)) [] [] = some ((.pointer (some ⟨b1, o1, none⟩)), []))
 (.claim (opA (Plain.env tblK (gE 0)) (.load (.const (.pointer (some ⟨b1, o1, none⟩))) (some 6)) [] (denH [.seg A, .blk .fix [(rS a1 n c1)], .seg B, .seg X2]) = some ((.agg ⟨[u0, u1, u2, u3, u4, u5]⟩), denH [.seg A, .blk .fix [(rS a1 n c1)], .seg B, .seg X2]))
 (.claim (opA (Plain.env tblK (gE 0)) (.call 52 [(.const (.agg ⟨[u0, u1, u2, u3, u4, u5]⟩)), (.const (.slice na n nc)), (.const (.slice oa n oc))]) [] (denH [.seg A, .blk .fix [(rS a1 n c1)], .seg B, .seg X2]) = some ((.slice ya m yc), denH [.seg A, .blk .fix [(rS a1 n c1)], .seg B, .seg X2, .seg X1]))
 (.ret .normal (frS 131 [(1, (rS ta tn ct)), (2, (rS ra rn rc)), (3, (sI at_)), (8, (sB false)), (10, (.ptr 1 0)), (11, (rS la n lc)), (12, (sI i)), (13, (rS ya m yc))]) [.seg A, .blk .fix [(rS a1 n c1)], .seg B, .seg X2, .seg X1])))))))) := by kernel_rfl
theorem eH {A B : Heap} {s : Value} : denH [.seg A, .blk .fix [(.raw s)], .seg B] = (A ++ [nb s]) ++ B := by simp [denH, denL, It.den, den0, nb]
theorem mn_ok (Γ : Env) (n k : Nat) (e : k = min n 6) (h : Heap) : opA Γ (.mn (kI n) (kI 6)) [] h = some (.int .i64 k, h) := by
 subst e
 have q : (if (6 : Int) < (n : Int) then (6 : Int) else n) = ((min n 6 : Nat) : Int) := by split <;> omega
 simp [opA, pureA, ev, q]
theorem and_ok (Γ : Env) (i : Int) (h : Heap) : ∃ i3, opA Γ (.bin .and (kI i) (kI 3)) [] h = some (.int .i64 i3, h) := ⟨_, rfl⟩
theorem behind {w : Nat} {A B X : Heap} {s : Value} {v : Value} {rows : List (List Value)} (h : LsS w (denH [.seg A, .blk .fix [(.raw s)], .seg B]) X v rows) : LsS w (A ++ [nb s]) (B ++ X) v rows := by
 rw [eH] at h; exact h.ahead
set_option maxHeartbeats 4000000 in
theorem sw {A B : Heap} {ta ra a1 la : Option Addr} {ct rc c1 lc i : Nat} {l : List L5} {ts : List TN} {rs : List R7} {at_ : Int} (hl : LsS 5 (A ++ [nb (.slice a1 l.length c1)]) B (.slice la l.length lc) (l.map e5)) (hwf : WF l) (hT : TapesOk A (.slice ta ts.length ct) ts) (hr : RowsW 7 A (.slice ra rs.length rc) (rs.map e7)) (hi : i < ts.length) (hi8 : i < 8) (K : Post2)
  (kk : ∀ (X : Heap) (ya : Option Addr) (yc : Nat) (ys : List R7), ys.length ≤ 12 → LsS 7 (A ++ [nb (.slice a1 l.length c1)]) (B ++ X) (.slice ya ys.length yc) (ys.map e7) →
   K .normal (denF [.seg A, .blk .fix [(rS a1 l.length c1)], .seg (B ++ X)] (frS 131 [(1, (rS ta ts.length ct)), (2, (rS ra rs.length rc)), (3, (sI at_)), (8, (sB false)), (10, (.ptr 1 0)), (11, (rS la l.length lc)), (12, (sI i)), (13, (rS ya ys.length yc))])) (denH [.seg A, .blk .fix [(rS a1 l.length c1)], .seg (B ++ X)])) :
  Wp (Plain.env tblK (gE 0)) (fun i => exL i t12_2 || (fun i => exL i t12_i || (fun i => exL i body12_0 || inL [8] i) i) i) t12_1 (denF [.seg A, .blk .fix [(rS a1 l.length c1)], .seg B] (frS 131 [(1, (rS ta ts.length ct)), (2, (rS ra rs.length rc)), (3, (sI at_)), (8, (sB false)), (10, (.ptr 1 0)), (11, (rS la l.length lc)), (12, (sI i))])) (denH [.seg A, .blk .fix [(rS a1 l.length c1)], .seg B]) K := by
 have hm := hwf.len
 have fin1 : ∀ (X : Heap) (ya : Option Addr) (yc : Nat) (ys : List R7) {f : SFr}, ys.length ≤ 12 → LsS 7 (denH [.seg A, .blk .fix [(rS a1 l.length c1)], .seg B]) X (.slice ya ys.length yc) (ys.map e7) → denF [.seg A, .blk .fix [(rS a1 l.length c1)], .seg B, .seg X] f = denF [.seg A, .blk .fix [(rS a1 l.length c1)], .seg B, .seg X] (frS 131 [(1, (rS ta ts.length ct)), (2, (rS ra rs.length rc)), (3, (sI at_)), (8, (sB false)), (10, (.ptr 1 0)), (11, (rS la l.length lc)), (12, (sI i)), (13, (rS ya ys.length yc))]) → K .normal (denF [.seg A, .blk .fix [(rS a1 l.length c1)], .seg B, .seg X] f) (denH [.seg A, .blk .fix [(rS a1 l.length c1)], .seg B, .seg X]) := by
  intro X ya yc ys f h12 hX ef
  rw [ef]
  have e1 : denH [.seg A, .blk .fix [(rS a1 l.length c1)], .seg B, .seg X] = denH [.seg A, .blk .fix [(rS a1 l.length c1)], .seg (B ++ X)] := by simp [denH, denL, It.den, den0]
  have e2 : denF [.seg A, .blk .fix [(rS a1 l.length c1)], .seg B, .seg X] (frS 131 [(1, (rS ta ts.length ct)), (2, (rS ra rs.length rc)), (3, (sI at_)), (8, (sB false)), (10, (.ptr 1 0)), (11, (rS la l.length lc)), (12, (sI i)), (13, (rS ya ys.length yc))]) = denF [.seg A, .blk .fix [(rS a1 l.length c1)], .seg (B ++ X)] (frS 131 [(1, (rS ta ts.length ct)), (2, (rS ra rs.length rc)), (3, (sI at_)), (8, (sB false)), (10, (.ptr 1 0)), (11, (rS la l.length lc)), (12, (sI i)), (13, (rS ya ys.length yc))]) := by show denF _ _ = denF _ _; kernel_rfl
  rw [e1, e2]
  exact kk X ya yc ys h12 (behind hX)
 have nn : ∀ {h : Heap} {v : Value} {n : Nat} {a : Option Addr} {c : Nat} {ys : List R7} {X : Heap}, LsS 7 h X (.slice a n c) (ys.map e7) → n = ys.length := by
  intro h v n a c ys X hX
  obtain ⟨_, _, q⟩ := hX.slc
  simp only [Value.slice.injEq, List.length_map] at q
  exact q.2.1
 obtain ⟨i3, h3⟩ := and_ok (Plain.env tblK (gE 0)) (i : Int) []
 by_cases hat : (i : Int) = at_
 ·obtain ⟨v, q1, r1⟩ := hr.cutM (lo := 0) (hi := min rs.length 6) (by omega) (Nat.min_le_left ..) none (some (kI (min rs.length 6 : Nat))) (.inl ⟨rfl, rfl⟩) (.inr rfl)
  rw [List.drop_zero] at r1
  obtain ⟨ys, eys⟩ : ∃ ys, ys = rs.take (min rs.length 6) := ⟨_, rfl⟩
  have hk : ys.length = min rs.length 6 := by rw [eys]; simp
  rw [← eys] at r1
  rw [← hk] at q1
  obtain ⟨xa, xc, rfl⟩ := r1.slcM
  have hx : RowsW 7 (denH [.seg A, .blk .fix [(rS a1 l.length c1)], .seg B] ++ ([] ++ [])) (.slice xa ys.length xc) (ys.map e7) := by
   rw [eH]; simpa using r1.app (nb (.slice a1 l.length c1) :: B)
  obtain ⟨v, X, q2, q3, _⟩ := LsS.all (eby := 56) (H := denH [.seg A, .blk .fix [(rS a1 l.length c1)], .seg B]) (J := []) (R := []) (l := .slice none 0 0) (x := .slice xa ys.length xc) (.inl ⟨rfl, rfl⟩) hx.src (by intro r hr; obtain ⟨x, _, rfl⟩ := List.mem_map.1 hr; rfl) (by decide) (by simp; omega) (by simp; omega)
  obtain ⟨ya, yc, rfl⟩ := q3.slcM
  have tr := tree12s ta ra la xa ya none none a1 ts.length ct rs.length rc l.length lc ys.length xc yc 0 0 c1 0 0 undef undef undef undef undef undef at_ i 0 A B X []
  refine Wp.tree (cE_ok 0) tr ⟨by kernel_rfl, by kernel_rfl⟩ ⟨fun _ => ⟨mn_ok _ _ _ hk _, q1 _, ?_, fin1 X ya yc ys (by omega) (by simpa using q3) rfl⟩, fun q => (by simp [hat] at q)⟩
  have := q2 (Plain.env tblK (gE 0))
  simpa [denH, denL, It.den, den0] using this
 ·have hT' := hT
  obtain ⟨rows, hrw, hrl, hk⟩ := hT
  obtain ⟨r, hri⟩ := getE (show i < rows.length by omega)
  obtain ⟨k, hki⟩ := getE hi
  have hkr := hk i r k hri hki
  obtain ⟨u0, u1, u2, u3, u4, u5, rfl, _⟩ := hkr.ok
  have row : ∀ Z : Heap, ∃ b1 o1, RowAt 6 (A ++ Z) (.slice ta ts.length ct) (i : Int) [u0, u1, u2, u3, u4, u5] b1 o1 := fun Z => by
   have h0 := hrw.app Z
   rw [← hrl] at h0
   obtain ⟨b1, o1, r1⟩ := h0.row hri
   rw [hrl] at r1
   exact ⟨b1, o1, r1⟩
  have ro : ∀ X : Heap, ∃ b1 o1, RowAt 6 (denH [.seg A, .blk .fix [(rS a1 l.length c1)], .seg B, .seg X]) (.slice ta ts.length ct) (i : Int) [u0, u1, u2, u3, u4, u5] b1 o1 := fun X => by
   have := row (nb (.slice a1 l.length c1) :: (B ++ X)); simpa [denH, denL, It.den, den0, nb] using this
  have ro0 : ∃ b1 o1, RowAt 6 (denH [.seg A, .blk .fix [(rS a1 l.length c1)], .seg B]) (.slice ta ts.length ct) (i : Int) [u0, u1, u2, u3, u4, u5] b1 o1 := by
   have := row (nb (.slice a1 l.length c1) :: B); simpa [denH, denL, It.den, den0, nb] using this
  by_cases h33 : i3 = 3
  ·obtain ⟨b1, o1, ro0⟩ := ro0
   have hk1 : TNOk (denH [.seg A, .blk .fix [(rS a1 l.length c1)], .seg B]) k [u0, u1, u2, u3, u4, u5] := by
    have := PO.KP.TNOk.app hkr (nb (.slice a1 l.length c1) :: B); simpa [denH, denL, It.den, den0, nb] using this
   obtain ⟨ya, n, yc, X, g51, l51⟩ := TL.run51 (I := [.seg A, .blk .fix [(rS a1 l.length c1)], .seg B]) rfl hk1
   obtain ⟨ys, eys⟩ : ∃ ys, ys = TL.linesF k := ⟨_, rfl⟩
   have h12 : ys.length ≤ 12 := by rw [eys]; exact TL.linesF_len k
   rw [← eys] at l51
   have en := nn (v := undef) l51
   subst en
   have tr := tree12s ta ra la none ya none none a1 ts.length ct rs.length rc l.length lc ys.length 0 yc 0 0 c1 b1 o1 u0 u1 u2 u3 u4 u5 at_ i i3 A B X []
   exact Wp.tree (cE_ok 0) tr ⟨by kernel_rfl, by kernel_rfl⟩ ⟨fun q => absurd q (by simp [hat]), fun _ => ⟨h3, fun _ => ⟨ro0.ptr _ _, ro0.all _, call (f := 51) (args := [_]) rfl g51, fin1 X ya yc ys h12 l51 rfl⟩, fun q => absurd q (by simp [h33])⟩⟩
  ·have hw : RowsW 5 (denH [.seg A, .blk .fix [(rS a1 l.length c1)], .seg B]) (.slice la l.length lc) (l.map e5) := by
    have := hl.rows (by decide) []; rw [eH]; simpa using this
   obtain ⟨e, t1, h1, ⟨X2, na, oa, nc, oc, rfl, rfl, rfl, hn2, ho2⟩, w2⟩ := (loopU (ta := ta) (ra := ra) (tn := ts.length) (ct := ct) (rn := rs.length) (rc := rc) (at_ := at_) (i := (i : Int)) hw (by omega)).exact
   obtain ⟨b1, o1, roX⟩ := ro X2
   have hk1 : TNOk (denH [.seg A, .blk .fix [(rS a1 l.length c1)], .seg B, .seg X2]) k [u0, u1, u2, u3, u4, u5] := by
    have := PO.KP.TNOk.app hkr (nb (.slice a1 l.length c1) :: (B ++ X2)); simpa [denH, denL, It.den, den0, nb] using this
   have hn3 : RowsW 2 (denH [.seg A, .blk .fix [(rS a1 l.length c1)], .seg B, .seg X2]) (.slice na l.length nc) ((nowOf l).map e2) := by
    have := hn2.s.rows (by decide) []
    simpa [denH, denL, It.den, den0] using this
   have ho3 : RowsW 1 (denH [.seg A, .blk .fix [(rS a1 l.length c1)], .seg B, .seg X2]) (.slice oa l.length oc) ((lostOf l).map ir) := by
    have := ho2.s.rows (by decide) []
    simpa [denH, denL, It.den, den0] using this
   obtain ⟨ya, n, yc, X, g52, l52⟩ := OF.run52 (I := [.seg A, .blk .fix [(rS a1 l.length c1)], .seg B, .seg X2]) rfl (k := k) hk1 hn3 ho3 (by simp [nowOf, lostOf]) (fun x hx => by
    obtain ⟨z, hz, rfl⟩ := List.mem_map.1 hx
    have := hwf.ok z hz
    exact ⟨this.b0, by have := this.b1; show z.b ≤ _; omega⟩) (fun z hz => by
    obtain ⟨x, hx, rfl⟩ := List.mem_map.1 hz
    have := (hwf.ok x hx).c1
    omega) (by simp [nowOf]; omega)
   obtain ⟨ys, eys⟩ : ∃ ys, ys = OF.ofF k (lostOf l) (nowOf l) := ⟨_, rfl⟩
   have h12 : ys.length ≤ 12 := by
    have := OF.ofG_len k (lostOf l) (nowOf l) 0
    have e2 : (nowOf l).length = l.length := by simp [nowOf]
    rw [eys]; show (OF.ofG k (lostOf l) 0 (nowOf l)).length ≤ 12
    omega
   rw [← eys] at l52
   have en := nn (v := undef) l52
   subst en
   have tr := tree12s ta ra la none ya na oa a1 ts.length ct rs.length rc l.length lc ys.length 0 yc nc oc c1 b1 o1 u0 u1 u2 u3 u4 u5 at_ i i3 A B X X2
   refine Wp.tree (cE_ok 0) tr ⟨by kernel_rfl, by kernel_rfl⟩ ⟨fun q => absurd q (by simp [hat]), fun _ => ⟨h3, fun q => absurd q (by simp [h33]), fun _ => ⟨w2, roX.ptr _ _, roX.all _, call (f := 52) (args := [_, _, _]) rfl g52, ?_⟩⟩⟩
   have e1 : denH [.seg A, .blk .fix [(rS a1 l.length c1)], .seg B, .seg X2, .seg X] = denH [.seg A, .blk .fix [(rS a1 l.length c1)], .seg (B ++ (X2 ++ X))] := by simp [denH, denL, It.den, den0]
   have e2 : denF [.seg A, .blk .fix [(rS a1 l.length c1)], .seg B, .seg X2, .seg X] (frS 131 [(1, (rS ta ts.length ct)), (2, (rS ra rs.length rc)), (3, (sI at_)), (8, (sB false)), (10, (.ptr 1 0)), (11, (rS la l.length lc)), (12, (sI i)), (13, (rS ya ys.length yc))]) = denF [.seg A, .blk .fix [(rS a1 l.length c1)], .seg (B ++ (X2 ++ X))] (frS 131 [(1, (rS ta ts.length ct)), (2, (rS ra rs.length rc)), (3, (sI at_)), (8, (sB false)), (10, (.ptr 1 0)), (11, (rS la l.length lc)), (12, (sI i)), (13, (rS ya ys.length yc))]) := by show denF _ _ = denF _ _; kernel_rfl
   show K .normal (denF [.seg A, .blk .fix [(rS a1 l.length c1)], .seg B, .seg X2, .seg X] (frS 131 [(1, (rS ta ts.length ct)), (2, (rS ra rs.length rc)), (3, (sI at_)), (8, (sB false)), (10, (.ptr 1 0)), (11, (rS la l.length lc)), (12, (sI i)), (13, (rS ya ys.length yc))])) (denH [.seg A, .blk .fix [(rS a1 l.length c1)], .seg B, .seg X2, .seg X])
   rw [e1, e2]
   refine kk (X2 ++ X) ya yc ys h12 ?_
   have e3 : denH [.seg A, .blk .fix [(rS a1 l.length c1)], .seg B, .seg X2] = (A ++ [nb (.slice a1 l.length c1)]) ++ (B ++ X2) := by simp [denH, denL, It.den, den0, nb]
   rw [e3] at l52
   have := l52.ahead
   rwa [List.append_assoc] at this
end L
end PR
end Go.Proofs.Ytgdojnamjkhknaa
