/-
  The law PoolPlays.
-/
import Derived.Test.YtgdojnamjkhknaaQbPq8
namespace Go.Proofs.Ytgdojnamjkhknaa
open Go.Am
set_option linter.all false
set_option maxRecDepth 100000
namespace PR
open PO (L5 A4 e5 e4 newL sumF wr e5_1 WF applyF nowOf lostOf pB)
open PO.KP (LsT TapesOk nb)
open TL (TN TNOk)
namespace L
def hn12o (ta ra la ya fa ga na a1 a2 : Option Addr) (tn ct rn rc n lc m yc fn fc gc nc c1 c2 : Nat) (at_ i : Int) (t : A4) (A B X1 X2 X3 X4 : Heap) : Hs := (.use 26000091 (rS fa fn fc) ⟨[], [.seg X1]⟩ (.use 17000097 (rS ga m gc) ⟨[], []⟩ (.use 26000098 (.raw (.tuple ⟨[(.agg ⟨[(.int .i64 t.p), (.int .i64 t.i), (.int .i64 t.l), (.int .i64 t.r)]⟩), (.int .i64 0)]⟩)) ⟨[(1, .blk .fix [(rS a2 n c2)])], [.seg X2]⟩ (.use 26000104 (.raw (.tuple ⟨[(.slice na n nc), (.agg ⟨[(.int .i64 t.p), (.int .i64 t.i), (.int .i64 t.l), (.int .i64 t.r)]⟩), (.int .i64 0)]⟩)) ⟨[], [.seg X3]⟩ (.con (.con (.con (.pur 11000114 (.bool false) (.con (.con (.con (.con (.con (.use 26000120 (sB true) ⟨[], []⟩ (.con (.con (.con (.con (.use 26000128 (sB true) ⟨[], [.seg X4]⟩ (.con .nil))))))))))))))))))))
theorem tree12o (ta ra la ya fa ga na a1 a2 : Option Addr) (tn ct rn rc n lc m yc fn fc gc nc c1 c2 : Nat) (at_ i : Int) (t : A4) (A B X1 X2 X3 X4 : Heap) : pieceS tblK (gE 0) (cE 0) 300 (fun i => exL i t12_i || (fun i => exL i body12_0 || inL [8] i) i) t12_2 (hn12o ta ra la ya fa ga na a1 a2 tn ct rn rc n lc m yc fn fc gc nc c1 c2 at_ i t A B X1 X2 X3 X4) (frS 131 [(1, (rS ta tn ct)), (2, (rS ra rn rc)), (3, (sI at_)), (8, (sB false)), (10, (.ptr 1 0)), (11, (rS la n lc)), (12, (sI i)), (13, (rS ya m yc))]) [.seg A, .blk .fix [(rS a1 n c1)], .seg B] =
(.claim (opA (Plain.env tblK (gE 0)) (.call 53 [(.const (.slice ya m yc)), (.const (.agg ⟨[(.int .i64 9), (.int .i64 0), (.int .i64 0), (.int .i64 0), (.int .i64 0), (.int .i64 0), (.bool false)]⟩))]) [] (denH [.seg A, .blk .fix [(rS a1 n c1)], .seg B]) = some ((.slice fa fn fc), denH [.seg A, .blk .fix [(rS a1 n c1)], .seg B, .seg X1]))
 (.claim (opA (Plain.env tblK (gE 0)) (.slice 7 (.const (.slice fa fn fc)) none (some (kI (m : Int))) none) [] (denH [.seg A, .blk .fix [(rS a1 n c1)], .seg B, .seg X1]) = some ((.slice ga m gc), denH [.seg A, .blk .fix [(rS a1 n c1)], .seg B, .seg X1]))
 (.claim (opA (Plain.env tblK (gE 0)) (.call 46 [(.const (denV (ofs [.seg A, .blk .fix [(rS a1 n c1)], .seg B, .seg X1]) (.ptr 1 0))), (.const (.slice ga m gc))]) [] (denH [.seg A, .blk .fix [(rS a1 n c1)], .seg B, .seg X1]) = some ((.tuple ⟨[(.agg ⟨[(.int .i64 t.p), (.int .i64 t.i), (.int .i64 t.l), (.int .i64 t.r)]⟩), (.int .i64 0)]⟩), denH [.seg A, .blk .fix [(rS a2 n c2)], .seg B, .seg X1, .seg X2]))
 (.claim (opA (Plain.env tblK (gE 0)) (.call 54 [(.const (.slice la n lc)), (.const (.slice ya m yc))]) [] (denH [.seg A, .blk .fix [(rS a2 n c2)], .seg B, .seg X1, .seg X2, .blk .fix [(sI t.p), (sI t.i), (sI t.l), (sI t.r)]]) = some ((.tuple ⟨[(.slice na n nc), (.agg ⟨[(.int .i64 t.p), (.int .i64 t.i), (.int .i64 t.l), (.int .i64 t.r)]⟩), (.int .i64 0)]⟩), denH [.seg A, .blk .fix [(rS a2 n c2)], .seg B, .seg X1, .seg X2, .blk .fix [(sI t.p), (sI t.i), (sI t.l), (sI t.r)], .seg X3]))
 (.claim (opA (Plain.env tblK (gE 0)) (.eqv true (.cells [false, false, false, false]) (.const (.agg ⟨[(.int .i64 t.p), (.int .i64 t.i), (.int .i64 t.l), (.int .i64 t.r)]⟩)) (.const (.agg ⟨[(.int .i64 t.p), (.int .i64 t.i), (.int .i64 t.l), (.int .i64 t.r)]⟩))) [] [] = some ((.bool false), []))
 (.claim (opA (Plain.env tblK (gE 0)) (.call 55 [(.const (.slice fa fn fc)), (.const (.slice ya m yc)), (.const (.agg ⟨[(.int .i64 9), (.int .i64 0), (.int .i64 0), (.int .i64 0), (.int .i64 0), (.int .i64 0), (.bool false)]⟩))]) [] (denH [.seg A, .blk .fix [(rS a2 n c2)], .seg B, .seg X1, .seg X2, .blk .fix [(sI t.p), (sI t.i), (sI t.l), (sI t.r)], .seg X3, .blk .fix [(sI t.p), (sI t.i), (sI t.l), (sI t.r)]]) = some ((.bool true), denH [.seg A, .blk .fix [(rS a2 n c2)], .seg B, .seg X1, .seg X2, .blk .fix [(sI t.p), (sI t.i), (sI t.l), (sI t.r)], .seg X3, .blk .fix [(sI t.p), (sI t.i), (sI t.l), (sI t.r)]]))
 (.claim (opA (Plain.env tblK (gE 0)) (.call 56 [(.const (denV (ofs [.seg A, .blk .fix [(rS a2 n c2)], .seg B, .seg X1, .seg X2, .blk .fix [(sI t.p), (sI t.i), (sI t.l), (sI t.r)], .seg X3, .blk .fix [(sI t.p), (sI t.i), (sI t.l), (sI t.r)]]) (.ptr 1 0))), (.const (.slice na n nc))]) [] (denH [.seg A, .blk .fix [(rS a2 n c2)], .seg B, .seg X1, .seg X2, .blk .fix [(sI t.p), (sI t.i), (sI t.l), (sI t.r)], .seg X3, .blk .fix [(sI t.p), (sI t.i), (sI t.l), (sI t.r)]]) = some ((.bool true), denH [.seg A, .blk .fix [(rS a2 n c2)], .seg B, .seg X1, .seg X2, .blk .fix [(sI t.p), (sI t.i), (sI t.l), (sI t.r)], .seg X3, .blk .fix [(sI t.p), (sI t.i), (sI t.l), (sI t.r)], .seg X4]))
 (.ret .normal (frS 131 [(1, (rS ta tn ct)), (2, (rS ra rn rc)), (3, (sI at_)), (8, (sB false)), (10, (.ptr 1 0)), (11, (rS na n nc)), (12, (sI i))]) [.seg A, .blk .fix [(rS a2 n c2)], .seg B, .seg X1, .seg X2, .blk .fix [(sI t.p), (sI t.i), (sI t.l), (sI t.r)], .seg X3, .blk .fix [(sI t.p), (sI t.i), (sI t.l), (sI t.r)], .seg X4])))))))) := by kernel_rfl
def hn12e (ta ra la ya fa ga na a1 a2 : Option Addr) (tn ct rn rc n lc m yc fn fc gc nc c1 c2 : Nat) (at_ i : Int) (t : A4) (A B X1 X2 X3 X4 : Heap) : Hs := (.use 26000091 (rS fa fn fc) ⟨[], [.seg X1]⟩ (.use 17000097 (rS ga m gc) ⟨[], []⟩ (.use 26000098 (.raw (.tuple ⟨[(.agg ⟨[(.int .i64 0), (.int .i64 0), (.int .i64 0), (.int .i64 0)]⟩), (.int .i64 3)]⟩)) ⟨[], [.seg X2]⟩ (.use 26000104 (.raw (.tuple ⟨[(.slice none 0 0), (.agg ⟨[(.int .i64 0), (.int .i64 0), (.int .i64 0), (.int .i64 0)]⟩), (.int .i64 3)]⟩)) ⟨[], [.seg X3]⟩ (.con (.con (.con (.pur 11000114 (.bool false) (.con (.con (.con (.con (.con (.use 26000120 (sB true) ⟨[], []⟩ (.con (.con (.con (.con (.use 26000128 (sB true) ⟨[], [.seg X4]⟩ (.con .nil))))))))))))))))))))
theorem tree12e (ta ra la ya fa ga na a1 a2 : Option Addr) (tn ct rn rc n lc m yc fn fc gc nc c1 c2 : Nat) (at_ i : Int) (t : A4) (A B X1 X2 X3 X4 : Heap) : pieceS tblK (gE 0) (cE 0) 300 (fun i => exL i t12_i || (fun i => exL i body12_0 || inL [8] i) i) t12_2 (hn12e ta ra la ya fa ga na a1 a2 tn ct rn rc n lc m yc fn fc gc nc c1 c2 at_ i t A B X1 X2 X3 X4) (frS 131 [(1, (rS ta tn ct)), (2, (rS ra rn rc)), (3, (sI at_)), (8, (sB false)), (10, (.ptr 1 0)), (11, (rS la n lc)), (12, (sI i)), (13, (rS ya m yc))]) [.seg A, .blk .fix [(rS a1 n c1)], .seg B] =
(.claim (opA (Plain.env tblK (gE 0)) (.call 53 [(.const (.slice ya m yc)), (.const (.agg ⟨[(.int .i64 9), (.int .i64 0), (.int .i64 0), (.int .i64 0), (.int .i64 0), (.int .i64 0), (.bool false)]⟩))]) [] (denH [.seg A, .blk .fix [(rS a1 n c1)], .seg B]) = some ((.slice fa fn fc), denH [.seg A, .blk .fix [(rS a1 n c1)], .seg B, .seg X1]))
 (.claim (opA (Plain.env tblK (gE 0)) (.slice 7 (.const (.slice fa fn fc)) none (some (kI (m : Int))) none) [] (denH [.seg A, .blk .fix [(rS a1 n c1)], .seg B, .seg X1]) = some ((.slice ga m gc), denH [.seg A, .blk .fix [(rS a1 n c1)], .seg B, .seg X1]))
 (.claim (opA (Plain.env tblK (gE 0)) (.call 46 [(.const (denV (ofs [.seg A, .blk .fix [(rS a1 n c1)], .seg B, .seg X1]) (.ptr 1 0))), (.const (.slice ga m gc))]) [] (denH [.seg A, .blk .fix [(rS a1 n c1)], .seg B, .seg X1]) = some ((.tuple ⟨[(.agg ⟨[(.int .i64 0), (.int .i64 0), (.int .i64 0), (.int .i64 0)]⟩), (.int .i64 3)]⟩), denH [.seg A, .blk .fix [(rS a1 n c1)], .seg B, .seg X1, .seg X2]))
 (.claim (opA (Plain.env tblK (gE 0)) (.call 54 [(.const (.slice la n lc)), (.const (.slice ya m yc))]) [] (denH [.seg A, .blk .fix [(rS a1 n c1)], .seg B, .seg X1, .seg X2, .blk .fix [(sI 0), (sI 0), (sI 0), (sI 0)]]) = some ((.tuple ⟨[(.slice none 0 0), (.agg ⟨[(.int .i64 0), (.int .i64 0), (.int .i64 0), (.int .i64 0)]⟩), (.int .i64 3)]⟩), denH [.seg A, .blk .fix [(rS a1 n c1)], .seg B, .seg X1, .seg X2, .blk .fix [(sI 0), (sI 0), (sI 0), (sI 0)], .seg X3]))
 (.claim (opA (Plain.env tblK (gE 0)) (.eqv true (.cells [false, false, false, false]) (.const (.agg ⟨[(.int .i64 0), (.int .i64 0), (.int .i64 0), (.int .i64 0)]⟩)) (.const (.agg ⟨[(.int .i64 0), (.int .i64 0), (.int .i64 0), (.int .i64 0)]⟩))) [] [] = some ((.bool false), []))
 (.claim (opA (Plain.env tblK (gE 0)) (.call 55 [(.const (.slice fa fn fc)), (.const (.slice ya m yc)), (.const (.agg ⟨[(.int .i64 9), (.int .i64 0), (.int .i64 0), (.int .i64 0), (.int .i64 0), (.int .i64 0), (.bool false)]⟩))]) [] (denH [.seg A, .blk .fix [(rS a1 n c1)], .seg B, .seg X1, .seg X2, .blk .fix [(sI 0), (sI 0), (sI 0), (sI 0)], .seg X3, .blk .fix [(sI 0), (sI 0), (sI 0), (sI 0)]]) = some ((.bool true), denH [.seg A, .blk .fix [(rS a1 n c1)], .seg B, .seg X1, .seg X2, .blk .fix [(sI 0), (sI 0), (sI 0), (sI 0)], .seg X3, .blk .fix [(sI 0), (sI 0), (sI 0), (sI 0)]]))
 (.claim (opA (Plain.env tblK (gE 0)) (.call 56 [(.const (denV (ofs [.seg A, .blk .fix [(rS a1 n c1)], .seg B, .seg X1, .seg X2, .blk .fix [(sI 0), (sI 0), (sI 0), (sI 0)], .seg X3, .blk .fix [(sI 0), (sI 0), (sI 0), (sI 0)]]) (.ptr 1 0))), (.const (.slice la n lc))]) [] (denH [.seg A, .blk .fix [(rS a1 n c1)], .seg B, .seg X1, .seg X2, .blk .fix [(sI 0), (sI 0), (sI 0), (sI 0)], .seg X3, .blk .fix [(sI 0), (sI 0), (sI 0), (sI 0)]]) = some ((.bool true), denH [.seg A, .blk .fix [(rS a1 n c1)], .seg B, .seg X1, .seg X2, .blk .fix [(sI 0), (sI 0), (sI 0), (sI 0)], .seg X3, .blk .fix [(sI 0), (sI 0), (sI 0), (sI 0)], .seg X4]))
 (.ret .normal (frS 131 [(1, (rS ta tn ct)), (2, (rS ra rn rc)), (3, (sI at_)), (8, (sB false)), (10, (.ptr 1 0)), (11, (rS la n lc)), (12, (sI i))]) [.seg A, .blk .fix [(rS a1 n c1)], .seg B, .seg X1, .seg X2, .blk .fix [(sI 0), (sI 0), (sI 0), (sI 0)], .seg X3, .blk .fix [(sI 0), (sI 0), (sI 0), (sI 0)], .seg X4])))))))) := by kernel_rfl
def hn12p (ba a0 a1 la ta ra : Option Addr) (bn bc n c0 c1 lc tn ct rn rc : Nat) (at_ : Int) (H X1 X2 X3 : Heap) : Hs := (.use 26000025 (rS a0 n c0) ⟨[], [.seg X1]⟩ (.use 26000027 (.ptr 2 0) ⟨[], [.blk .fix [(rS a1 n c1)], .seg X2]⟩ (.use 26000029 (rS la n lc) ⟨[], [.seg X3]⟩ (.con .nil))))
theorem tree12p (ba a0 a1 la ta ra : Option Addr) (bn bc n c0 c1 lc tn ct rn rc : Nat) (at_ : Int) (H X1 X2 X3 : Heap) : pieceS tblK (gE 0) (cE 0) 300 (fun i => (exL i r12_1 || resLv il12.res i)) c12_0 (hn12p ba a0 a1 la ta ra bn bc n c0 c1 lc tn ct rn rc at_ H X1 X2 X3) (frS 131 [(0, (rS ba bn bc)), (1, (rS ta tn ct)), (2, (rS ra rn rc)), (3, (sI at_))]) [.seg H] =
(.claim (opA (Plain.env tblK (gE 0)) (.call 49 [(.const (.slice ba bn bc))]) [] (denH [.seg H]) = some ((.slice a0 n c0), denH [.seg H, .seg X1]))
 (.claim (opA (Plain.env tblK (gE 0)) (.call 45 [(.const (.slice a0 n c0))]) [] (denH [.seg H, .seg X1]) = some ((denV (ofs [.seg H, .seg X1, .blk .fix [(rS a1 n c1)], .seg X2]) (.ptr 2 0)), denH [.seg H, .seg X1, .blk .fix [(rS a1 n c1)], .seg X2]))
 (.claim (opA (Plain.env tblK (gE 0)) (.call 50 [(.const (.slice a0 n c0))]) [] (denH [.seg H, .seg X1, .blk .fix [(rS a1 n c1)], .seg X2]) = some ((.slice la n lc), denH [.seg H, .seg X1, .blk .fix [(rS a1 n c1)], .seg X2, .seg X3]))
 (.ret .normal (frS 131 [(1, (rS ta tn ct)), (2, (rS ra rn rc)), (3, (sI at_)), (8, (sB false)), (10, (.ptr 2 0)), (11, (rS la n lc))]) [.seg H, .seg X1, .blk .fix [(rS a1 n c1)], .seg X2, .seg X3])))) := by kernel_rfl
def hn12q (ta ra la a1 a2 : Option Addr) (tn ct rn rc n lc c1 c2 : Nat) (at_ : Int) (A B Z : Heap) : Hs := (.lp 0 [8] (frS 131 [(8, (sB false))]) ⟨[(1, .blk .fix [(rS a2 n c2)])], [.seg Z]⟩ .nil)
theorem tree12q (ta ra la a1 a2 : Option Addr) (tn ct rn rc n lc c1 c2 : Nat) (at_ : Int) (A B Z : Heap) : pieceS tblK (gE 0) (cE 0) 300 (resLv il12.res) r12_1 (hn12q ta ra la a1 a2 tn ct rn rc n lc c1 c2 at_ A B Z) (frS 131 [(1, (rS ta tn ct)), (2, (rS ra rn rc)), (3, (sI at_)), (8, (sB false)), (10, (.ptr 1 0)), (11, (rS la n lc))]) [.seg A, .blk .fix [(rS a1 n c1)], .seg B] =
(.claim (Wp (Plain.env tblK (gE 0)) (inL [8]) (.block 0 (.loop body12_0)) (denF [.seg A, .blk .fix [(rS a1 n c1)], .seg B] (frS 131 [(1, (rS ta tn ct)), (2, (rS ra rn rc)), (3, (sI at_)), (8, (sB false)), (10, (.ptr 1 0)), (11, (rS la n lc)), (12, (sI 0))])) (denH [.seg A, .blk .fix [(rS a1 n c1)], .seg B]) fun e_ s_ h_ => e_ = .normal ∧ s_ = denF [.seg A, .blk .fix [(rS a2 n c2)], .seg B, .seg Z] (frS 131 [(8, (sB false))]) ∧ h_ = denH [.seg A, .blk .fix [(rS a2 n c2)], .seg B, .seg Z])
 (.req true (.ret .ret (frS 131 [(8, (sB true))]) [.seg A, .blk .fix [(rS a2 n c2)], .seg B, .seg Z]))) := by kernel_rfl
theorem pt {A : Heap} {s : Value} {I : SH} : denV (ofs (.seg A :: .blk .fix [.raw s] :: I)) (.ptr 1 0) = .pointer (some ⟨A.length, 0, none⟩) := by
 have := PO.ptr_at (I1 := [.seg A]) (I2 := I) (pB s)
 simpa [denH, denL, It.den] using this
theorem dn {A Z : Heap} {s : Value} {I : SH} (h : ∀ f, denL f I = Z) : denH (.seg A :: .blk .fix [.raw s] :: I) = A ++ nb s :: Z := by
 have := PO.KP.denG (I1 := [.seg A]) (I2 := I) rfl h s
 simpa [denH, denL, It.den] using this
theorem RowsW.cell {A B : Heap} {s1 s2 : Value} {w : Nat} {v : Value} {rows : List (List Value)} (h : RowsW w (A ++ nb s1 :: B) v rows) (hw : 2 ≤ rows.length * w) : RowsW w (A ++ nb s2 :: B) v rows := by
 rcases h with ⟨_, rfl⟩ | ⟨b, o, c, blk, q1, q2, q3, q4, q5, q6⟩
 ·simp at hw
 ·refine .inr ⟨b, o, c, blk, q1, q2, ?_, q4, q5, q6⟩
  by_cases hb : b = A.length
  ·subst hb
   rw [PO.rd_mid1] at q3
   cases q3
   simp at q5
   omega
  ·unfold rd at q3 ⊢
   rcases Nat.lt_or_gt_of_ne hb with hlt | hgt
   ·rw [List.getElem?_append_left hlt] at q3 ⊢; exact q3
   ·rw [List.getElem?_append_right (by omega)] at q3 ⊢
    obtain ⟨k, hk⟩ : ∃ k, b - A.length = k + 1 := ⟨b - A.length - 1, by omega⟩
    rw [hk, List.getElem?_cons_succ] at q3 ⊢
    exact q3
theorem eq4_h (Γ : Env) (t : A4) (h : Heap) : opA Γ (.eqv true (.cells [false, false, false, false]) (.const (.agg ⟨[(.int .i64 t.p), (.int .i64 t.i), (.int .i64 t.l), (.int .i64 t.r)]⟩)) (.const (.agg ⟨[(.int .i64 t.p), (.int .i64 t.i), (.int .i64 t.l), (.int .i64 t.r)]⟩))) [] h = some (.bool false, h) := by
 simp [opA, pureA, ev, eqA, eqCells, eq1]
set_option maxHeartbeats 8000000 in
theorem rest {A B : Heap} {ta ra a1 la ya : Option Addr} {tn ct rn rc c1 lc yc : Nat} {l : List L5} {ys : List R7} {at_ i : Int} (hs : RowsW 5 (A ++ nb (.slice a1 l.length c1) :: B) (.slice a1 l.length c1) (l.map e5)) (hl : LsS 5 (A ++ [nb (.slice a1 l.length c1)]) B (.slice la l.length lc) (l.map e5)) (hwf : WF l) (h12 : ys.length ≤ 12) (hy : LsS 7 (A ++ [nb (.slice a1 l.length c1)]) B (.slice ya ys.length yc) (ys.map e7)) (K : Post2)
  (kk : ∀ (Z : Heap) (a2 la2 : Option Addr) (c2 lc2 : Nat) (l2 : List L5), l2.length = l.length → WF l2 → RowsW 5 (A ++ nb (.slice a2 l.length c2) :: (B ++ Z)) (.slice a2 l.length c2) (l2.map e5) → LsS 5 (A ++ [nb (.slice a2 l.length c2)]) (B ++ Z) (.slice la2 l.length lc2) (l2.map e5) →
   K .normal (denF [.seg A, .blk .fix [(rS a2 l.length c2)], .seg (B ++ Z)] (frS 131 [(1, (rS ta tn ct)), (2, (rS ra rn rc)), (3, (sI at_)), (8, (sB false)), (10, (.ptr 1 0)), (11, (rS la2 l.length lc2)), (12, (sI i))])) (denH [.seg A, .blk .fix [(rS a2 l.length c2)], .seg (B ++ Z)])) :
  Wp (Plain.env tblK (gE 0)) (fun i => exL i t12_i || (fun i => exL i body12_0 || inL [8] i) i) t12_2 (denF [.seg A, .blk .fix [(rS a1 l.length c1)], .seg B] (frS 131 [(1, (rS ta tn ct)), (2, (rS ra rn rc)), (3, (sI at_)), (8, (sB false)), (10, (.ptr 1 0)), (11, (rS la l.length lc)), (12, (sI i)), (13, (rS ya ys.length yc))])) (denH [.seg A, .blk .fix [(rS a1 l.length c1)], .seg B]) K := by
 have hm := hwf.len
 have hy0 : RowsW 7 (denH [.seg A, .blk .fix [(rS a1 l.length c1)], .seg B]) (.slice ya ys.length yc) (ys.map e7) := by
  have := hy.rows (by decide) []; rw [eH]; simpa using this
 obtain ⟨fa, X1, g53, rf⟩ := R53.use (I := [.seg A, .blk .fix [(rS a1 l.length c1)], .seg B]) rfl (x := ⟨9, 0, 0, 0, 0, 0, false⟩) hy0 (by omega)
 have e1 : denH ([.seg A, .blk .fix [(rS a1 l.length c1)], .seg B] ++ [.seg X1]) = A ++ nb (.slice a1 l.length c1) :: (B ++ X1) := by simp [denH, denL, It.den, den0, nb]
 have rf1 : RowsW 7 (A ++ nb (.slice a1 l.length c1) :: (B ++ X1)) (.slice (some fa) (ys ++ List.replicate 80 (⟨9, 0, 0, 0, 0, 0, false⟩ : R7)).length (ys.length + 80)) ((ys ++ List.replicate 80 (⟨9, 0, 0, 0, 0, 0, false⟩ : R7)).map e7) := by
  rw [← e1, List.length_append, List.length_replicate]; exact rf
 obtain ⟨v4, t4, r4⟩ := rf1.cutM (lo := 0) (hi := ys.length) (by omega) (by simp) none (some (kI ys.length)) (.inl ⟨rfl, rfl⟩) (.inr rfl)
 rw [List.drop_zero, List.take_left] at r4
 rw [List.length_append, List.length_replicate] at t4 rf1
 obtain ⟨ga, gc, rfl⟩ := r4.slcM
 have hs1 : RowsW 5 (A ++ nb (.slice a1 l.length c1) :: (B ++ X1)) (.slice a1 l.length c1) (l.map e5) := by
  have := hs.app X1; simpa using this
 obtain ⟨X2, hX2⟩ := PO.P.use46 hs1 r4 (by omega) (by omega)
 have c53 := call (f := 53) (args := [_, _]) rfl g53
 have t4' : opA (Plain.env tblK (gE 0)) (.slice 7 (.const (.slice (some fa) (ys.length + 80) (ys.length + 80))) none (some (kI (ys.length : Int))) none) [] (denH [.seg A, .blk .fix [(rS a1 l.length c1)], .seg B, .seg X1]) = some (.slice ga ys.length gc, denH [.seg A, .blk .fix [(rS a1 l.length c1)], .seg B, .seg X1]) := by
  rw [show denH [.seg A, .blk .fix [(rS a1 l.length c1)], .seg B, .seg X1] = A ++ nb (.slice a1 l.length c1) :: (B ++ X1) from e1]; exact t4 _
 cases hap : applyF l ys with
 | none =>
  rw [hap] at hX2
  have c46 : opA (Plain.env tblK (gE 0)) (.call 46 [(.const (denV (ofs [.seg A, .blk .fix [(rS a1 l.length c1)], .seg B, .seg X1]) (.ptr 1 0))), (.const (.slice ga ys.length gc))]) [] (denH [.seg A, .blk .fix [(rS a1 l.length c1)], .seg B, .seg X1]) = some (PO.P.tupA none, denH [.seg A, .blk .fix [(rS a1 l.length c1)], .seg B, .seg X1, .seg X2]) := by
   rw [pt, dn (Z := B ++ X1) (fun f => by simp [denL, It.den]), dn (Z := B ++ X1 ++ X2) (fun f => by simp [denL, It.den])]
   exact call (f := 46) (args := [_, _]) rfl hX2
  have e5' : denH [.seg A, .blk .fix [(rS a1 l.length c1)], .seg B, .seg X1, .seg X2, .blk .fix [(sI 0), (sI 0), (sI 0), (sI 0)]] = A ++ nb (.slice a1 l.length c1) :: (B ++ (X1 ++ (X2 ++ [some ⟨.fix, e4 PO.a0⟩]))) := by simp [denH, denL, It.den, den0, nb, e4, PO.a0]
  have hl5 : RowsW 5 (denH [.seg A, .blk .fix [(rS a1 l.length c1)], .seg B, .seg X1, .seg X2, .blk .fix [(sI 0), (sI 0), (sI 0), (sI 0)]]) (.slice la l.length lc) (l.map e5) := by
   have := hl.rows (by decide) (X1 ++ (X2 ++ [some ⟨.fix, e4 PO.a0⟩])); rw [e5']; simpa using this
  have hy5 : RowsW 7 (denH [.seg A, .blk .fix [(rS a1 l.length c1)], .seg B, .seg X1, .seg X2, .blk .fix [(sI 0), (sI 0), (sI 0), (sI 0)]]) (.slice ya ys.length yc) (ys.map e7) := by
   have := hy.rows (by decide) (X1 ++ (X2 ++ [some ⟨.fix, e4 PO.a0⟩])); rw [e5']; simpa using this
  obtain ⟨v, h', r54, ho⟩ := P.use54 hl5 hy5 hwf (by omega)
  unfold P.Out at ho
  rw [hap] at ho
  obtain ⟨X3, rfl, rfl⟩ := ho
  have c54 : opA (Plain.env tblK (gE 0)) (.call 54 [(.const (.slice la l.length lc)), (.const (.slice ya ys.length yc))]) [] (denH [.seg A, .blk .fix [(rS a1 l.length c1)], .seg B, .seg X1, .seg X2, .blk .fix [(sI 0), (sI 0), (sI 0), (sI 0)]]) = some (P.tupR (.slice none 0 0) none, denH [.seg A, .blk .fix [(rS a1 l.length c1)], .seg B, .seg X1, .seg X2, .blk .fix [(sI 0), (sI 0), (sI 0), (sI 0)], .seg X3]) := by
   have e6 : denH [.seg A, .blk .fix [(rS a1 l.length c1)], .seg B, .seg X1, .seg X2, .blk .fix [(sI 0), (sI 0), (sI 0), (sI 0)], .seg X3] = denH [.seg A, .blk .fix [(rS a1 l.length c1)], .seg B, .seg X1, .seg X2, .blk .fix [(sI 0), (sI 0), (sI 0), (sI 0)]] ++ X3 := by simp [denH, denL, It.den, den0]
   rw [e6]
   exact call (f := 54) (args := [_, _]) rfl r54
  have e8 : denH [.seg A, .blk .fix [(rS a1 l.length c1)], .seg B, .seg X1, .seg X2, .blk .fix [(sI 0), (sI 0), (sI 0), (sI 0)], .seg X3, .blk .fix [(sI 0), (sI 0), (sI 0), (sI 0)]] = A ++ nb (.slice a1 l.length c1) :: (B ++ (X1 ++ (X2 ++ (some ⟨.fix, e4 PO.a0⟩ :: (X3 ++ [some ⟨.fix, e4 PO.a0⟩]))))) := by simp [denH, denL, It.den, den0, nb, e4, PO.a0]
  obtain ⟨R, eR⟩ : ∃ R, R = X1 ++ (X2 ++ (some ⟨.fix, e4 PO.a0⟩ :: (X3 ++ [some ⟨.fix, e4 PO.a0⟩]))) := ⟨_, rfl⟩
  rw [← eR] at e8
  have hf8 : RowsW 7 (denH [.seg A, .blk .fix [(rS a1 l.length c1)], .seg B, .seg X1, .seg X2, .blk .fix [(sI 0), (sI 0), (sI 0), (sI 0)], .seg X3, .blk .fix [(sI 0), (sI 0), (sI 0), (sI 0)]]) (.slice (some fa) (ys.length + 80) (ys.length + 80)) ((ys ++ List.replicate 80 (⟨9, 0, 0, 0, 0, 0, false⟩ : R7)).map e7) := by
   have := rf1.app (X2 ++ (some ⟨.fix, e4 PO.a0⟩ :: (X3 ++ [some ⟨.fix, e4 PO.a0⟩]))); rw [e8, eR]; simpa using this
  have hy8 : RowsW 7 (denH [.seg A, .blk .fix [(rS a1 l.length c1)], .seg B, .seg X1, .seg X2, .blk .fix [(sI 0), (sI 0), (sI 0), (sI 0)], .seg X3, .blk .fix [(sI 0), (sI 0), (sI 0), (sI 0)]]) (.slice ya ys.length yc) (ys.map e7) := by
   have := hy.rows (by decide) R; rw [e8]; simpa using this
  have c55 := call (f := 55) (args := [_, _, _]) rfl (T55.call hf8 hy8 (by omega))
  have hl8 : RowsW 5 (A ++ nb (.slice a1 l.length c1) :: (B ++ R)) (.slice la l.length lc) (l.map e5) := by
   have := hl.rows (by decide) R; simpa using this
  have hs8 : RowsW 5 (A ++ nb (.slice a1 l.length c1) :: (B ++ R)) (.slice a1 l.length c1) (l.map e5) := by
   have := hs.app R; simpa using this
  obtain ⟨X4, r56⟩ := S.use56 (p := A.length) PO.rd_mid1 hs8 hl8 (by omega)
  have c56 : opA (Plain.env tblK (gE 0)) (.call 56 [(.const (denV (ofs [.seg A, .blk .fix [(rS a1 l.length c1)], .seg B, .seg X1, .seg X2, .blk .fix [(sI 0), (sI 0), (sI 0), (sI 0)], .seg X3, .blk .fix [(sI 0), (sI 0), (sI 0), (sI 0)]]) (.ptr 1 0))), (.const (.slice la l.length lc))]) [] (denH [.seg A, .blk .fix [(rS a1 l.length c1)], .seg B, .seg X1, .seg X2, .blk .fix [(sI 0), (sI 0), (sI 0), (sI 0)], .seg X3, .blk .fix [(sI 0), (sI 0), (sI 0), (sI 0)]]) = some (.bool true, denH [.seg A, .blk .fix [(rS a1 l.length c1)], .seg B, .seg X1, .seg X2, .blk .fix [(sI 0), (sI 0), (sI 0), (sI 0)], .seg X3, .blk .fix [(sI 0), (sI 0), (sI 0), (sI 0)], .seg X4]) := by
   have e9 : denH [.seg A, .blk .fix [(rS a1 l.length c1)], .seg B, .seg X1, .seg X2, .blk .fix [(sI 0), (sI 0), (sI 0), (sI 0)], .seg X3, .blk .fix [(sI 0), (sI 0), (sI 0), (sI 0)], .seg X4] = denH [.seg A, .blk .fix [(rS a1 l.length c1)], .seg B, .seg X1, .seg X2, .blk .fix [(sI 0), (sI 0), (sI 0), (sI 0)], .seg X3, .blk .fix [(sI 0), (sI 0), (sI 0), (sI 0)]] ++ X4 := by simp [denH, denL, It.den, den0]
   rw [e9, pt, e8]
   exact call (f := 56) (args := [_, _]) rfl r56
  have tr := tree12e ta ra la ya (some fa) ga none a1 none tn ct rn rc l.length lc ys.length yc (ys.length + 80) (ys.length + 80) gc 0 c1 0 at_ i PO.a0 A B X1 X2 X3 X4
  refine Wp.tree (cE_ok 0) tr ⟨by kernel_rfl, by kernel_rfl⟩ ⟨c53, t4', c46, c54, eq4_h _ PO.a0 _, c55, c56, ?_⟩
  have e10 : denH [.seg A, .blk .fix [(rS a1 l.length c1)], .seg B, .seg X1, .seg X2, .blk .fix [(sI 0), (sI 0), (sI 0), (sI 0)], .seg X3, .blk .fix [(sI 0), (sI 0), (sI 0), (sI 0)], .seg X4] = denH [.seg A, .blk .fix [(rS a1 l.length c1)], .seg (B ++ (R ++ X4))] := by rw [eR]; simp [denH, denL, It.den, den0, e4, PO.a0]
  have e11 : denF [.seg A, .blk .fix [(rS a1 l.length c1)], .seg B, .seg X1, .seg X2, .blk .fix [(sI 0), (sI 0), (sI 0), (sI 0)], .seg X3, .blk .fix [(sI 0), (sI 0), (sI 0), (sI 0)], .seg X4] (frS 131 [(1, (rS ta tn ct)), (2, (rS ra rn rc)), (3, (sI at_)), (8, (sB false)), (10, (.ptr 1 0)), (11, (rS la l.length lc)), (12, (sI i))]) = denF [.seg A, .blk .fix [(rS a1 l.length c1)], .seg (B ++ (R ++ X4))] (frS 131 [(1, (rS ta tn ct)), (2, (rS ra rn rc)), (3, (sI at_)), (8, (sB false)), (10, (.ptr 1 0)), (11, (rS la l.length lc)), (12, (sI i))]) := by show denF _ _ = denF _ _; kernel_rfl
  show K .normal (denF [.seg A, .blk .fix [(rS a1 l.length c1)], .seg B, .seg X1, .seg X2, .blk .fix [(sI 0), (sI 0), (sI 0), (sI 0)], .seg X3, .blk .fix [(sI 0), (sI 0), (sI 0), (sI 0)], .seg X4] (frS 131 [(1, (rS ta tn ct)), (2, (rS ra rn rc)), (3, (sI at_)), (8, (sB false)), (10, (.ptr 1 0)), (11, (rS la l.length lc)), (12, (sI i))])) (denH [.seg A, .blk .fix [(rS a1 l.length c1)], .seg B, .seg X1, .seg X2, .blk .fix [(sI 0), (sI 0), (sI 0), (sI 0)], .seg X3, .blk .fix [(sI 0), (sI 0), (sI 0), (sI 0)], .seg X4])
  rw [e10, e11]
  exact kk (R ++ X4) a1 la c1 lc l rfl hwf (by have := hs8.app X4; simpa using this) (by have := hl.more (R ++ X4); exact this)
 | some q =>
  obtain ⟨l2, t⟩ := q
  rw [hap] at hX2
  obtain ⟨a2, c2, hlen, hls, hr46⟩ := hX2
  simp only at hlen hls
  have hwf2 := (P.applyF_wf hwf hap).1
  simp only at hwf2
  have c46 : opA (Plain.env tblK (gE 0)) (.call 46 [(.const (denV (ofs [.seg A, .blk .fix [(rS a1 l.length c1)], .seg B, .seg X1]) (.ptr 1 0))), (.const (.slice ga ys.length gc))]) [] (denH [.seg A, .blk .fix [(rS a1 l.length c1)], .seg B, .seg X1]) = some (PO.P.tupA (some (l2, t)), denH [.seg A, .blk .fix [(rS a2 l.length c2)], .seg B, .seg X1, .seg X2]) := by
   rw [pt, dn (Z := B ++ X1) (fun f => by simp [denL, It.den]), dn (Z := B ++ X1 ++ X2) (fun f => by simp [denL, It.den])]
   exact call (f := 46) (args := [_, _]) rfl hr46
  have hl' := hl.base (H' := A ++ [nb (.slice a2 l.length c2)]) (by simp)
  have hy' := hy.base (H' := A ++ [nb (.slice a2 l.length c2)]) (by simp)
  have e5' : denH [.seg A, .blk .fix [(rS a2 l.length c2)], .seg B, .seg X1, .seg X2, .blk .fix [(sI t.p), (sI t.i), (sI t.l), (sI t.r)]] = (A ++ [nb (.slice a2 l.length c2)]) ++ (B ++ (X1 ++ (X2 ++ [some ⟨.fix, e4 t⟩]))) := by simp [denH, denL, It.den, den0, nb, e4]
  have hl5 : RowsW 5 (denH [.seg A, .blk .fix [(rS a2 l.length c2)], .seg B, .seg X1, .seg X2, .blk .fix [(sI t.p), (sI t.i), (sI t.l), (sI t.r)]]) (.slice la l.length lc) (l.map e5) := by
   rw [e5']; exact hl'.rows (by decide) _
  have hy5 : RowsW 7 (denH [.seg A, .blk .fix [(rS a2 l.length c2)], .seg B, .seg X1, .seg X2, .blk .fix [(sI t.p), (sI t.i), (sI t.l), (sI t.r)]]) (.slice ya ys.length yc) (ys.map e7) := by
   rw [e5']; exact hy'.rows (by decide) _
  obtain ⟨v, h', r54, ho⟩ := P.use54 hl5 hy5 hwf (by omega)
  unfold P.Out at ho
  rw [hap] at ho
  obtain ⟨na, nc, X3, _, _, hL3, rfl, rfl⟩ := ho
  have c54 : opA (Plain.env tblK (gE 0)) (.call 54 [(.const (.slice la l.length lc)), (.const (.slice ya ys.length yc))]) [] (denH [.seg A, .blk .fix [(rS a2 l.length c2)], .seg B, .seg X1, .seg X2, .blk .fix [(sI t.p), (sI t.i), (sI t.l), (sI t.r)]]) = some (P.tupR (.slice na l.length nc) (some t), denH [.seg A, .blk .fix [(rS a2 l.length c2)], .seg B, .seg X1, .seg X2, .blk .fix [(sI t.p), (sI t.i), (sI t.l), (sI t.r)], .seg X3]) := by
   have e6 : denH [.seg A, .blk .fix [(rS a2 l.length c2)], .seg B, .seg X1, .seg X2, .blk .fix [(sI t.p), (sI t.i), (sI t.l), (sI t.r)], .seg X3] = denH [.seg A, .blk .fix [(rS a2 l.length c2)], .seg B, .seg X1, .seg X2, .blk .fix [(sI t.p), (sI t.i), (sI t.l), (sI t.r)]] ++ X3 := by simp [denH, denL, It.den, den0]
   rw [e6]
   exact call (f := 54) (args := [_, _]) rfl r54
  rw [e5'] at hL3
  have hL4 := hL3.ahead
  obtain ⟨R, eR⟩ : ∃ R, R = X1 ++ (X2 ++ (some ⟨.fix, e4 t⟩ :: (X3 ++ [some ⟨.fix, e4 t⟩]))) := ⟨_, rfl⟩
  have hL5 : LsS 5 (A ++ [nb (.slice a2 l.length c2)]) (B ++ R) (.slice na l.length nc) (l2.map e5) := by
   have := hL4.more [some ⟨.fix, e4 t⟩]; rw [eR]; simpa using this
  have e8 : denH [.seg A, .blk .fix [(rS a2 l.length c2)], .seg B, .seg X1, .seg X2, .blk .fix [(sI t.p), (sI t.i), (sI t.l), (sI t.r)], .seg X3, .blk .fix [(sI t.p), (sI t.i), (sI t.l), (sI t.r)]] = A ++ nb (.slice a2 l.length c2) :: (B ++ R) := by rw [eR]; simp [denH, denL, It.den, den0, nb, e4]
  have hf8 : RowsW 7 (denH [.seg A, .blk .fix [(rS a2 l.length c2)], .seg B, .seg X1, .seg X2, .blk .fix [(sI t.p), (sI t.i), (sI t.l), (sI t.r)], .seg X3, .blk .fix [(sI t.p), (sI t.i), (sI t.l), (sI t.r)]]) (.slice (some fa) (ys.length + 80) (ys.length + 80)) ((ys ++ List.replicate 80 (⟨9, 0, 0, 0, 0, 0, false⟩ : R7)).map e7) := by
   have := (RowsW.cell (s2 := .slice a2 l.length c2) rf1 (by simp; omega)).app (X2 ++ (some ⟨.fix, e4 t⟩ :: (X3 ++ [some ⟨.fix, e4 t⟩]))); rw [e8, eR]; simpa using this
  have hy8 : RowsW 7 (denH [.seg A, .blk .fix [(rS a2 l.length c2)], .seg B, .seg X1, .seg X2, .blk .fix [(sI t.p), (sI t.i), (sI t.l), (sI t.r)], .seg X3, .blk .fix [(sI t.p), (sI t.i), (sI t.l), (sI t.r)]]) (.slice ya ys.length yc) (ys.map e7) := by
   have := hy'.rows (by decide) R; rw [e8]; simpa using this
  have c55 := call (f := 55) (args := [_, _, _]) rfl (T55.call hf8 hy8 (by omega))
  have hl8 : RowsW 5 (A ++ nb (.slice a2 l.length c2) :: (B ++ R)) (.slice na l.length nc) (l2.map e5) := by
   have := hL5.rows (by decide) []; simpa using this
  have hs8 : RowsW 5 (A ++ nb (.slice a2 l.length c2) :: (B ++ R)) (.slice a2 l.length c2) (l2.map e5) := by
   have := hls.rows (by decide) (some ⟨.fix, e4 t⟩ :: (X3 ++ [some ⟨.fix, e4 t⟩])); rw [eR]; simpa using this
  obtain ⟨X4, r56⟩ := S.use56 (p := A.length) PO.rd_mid1 hs8 hl8 (by omega)
  have c56 : opA (Plain.env tblK (gE 0)) (.call 56 [(.const (denV (ofs [.seg A, .blk .fix [(rS a2 l.length c2)], .seg B, .seg X1, .seg X2, .blk .fix [(sI t.p), (sI t.i), (sI t.l), (sI t.r)], .seg X3, .blk .fix [(sI t.p), (sI t.i), (sI t.l), (sI t.r)]]) (.ptr 1 0))), (.const (.slice na l.length nc))]) [] (denH [.seg A, .blk .fix [(rS a2 l.length c2)], .seg B, .seg X1, .seg X2, .blk .fix [(sI t.p), (sI t.i), (sI t.l), (sI t.r)], .seg X3, .blk .fix [(sI t.p), (sI t.i), (sI t.l), (sI t.r)]]) = some (.bool true, denH [.seg A, .blk .fix [(rS a2 l.length c2)], .seg B, .seg X1, .seg X2, .blk .fix [(sI t.p), (sI t.i), (sI t.l), (sI t.r)], .seg X3, .blk .fix [(sI t.p), (sI t.i), (sI t.l), (sI t.r)], .seg X4]) := by
   have e9 : denH [.seg A, .blk .fix [(rS a2 l.length c2)], .seg B, .seg X1, .seg X2, .blk .fix [(sI t.p), (sI t.i), (sI t.l), (sI t.r)], .seg X3, .blk .fix [(sI t.p), (sI t.i), (sI t.l), (sI t.r)], .seg X4] = denH [.seg A, .blk .fix [(rS a2 l.length c2)], .seg B, .seg X1, .seg X2, .blk .fix [(sI t.p), (sI t.i), (sI t.l), (sI t.r)], .seg X3, .blk .fix [(sI t.p), (sI t.i), (sI t.l), (sI t.r)]] ++ X4 := by simp [denH, denL, It.den, den0]
   rw [e9, pt, e8]
   exact call (f := 56) (args := [_, _]) rfl r56
  have tr := tree12o ta ra la ya (some fa) ga na a1 a2 tn ct rn rc l.length lc ys.length yc (ys.length + 80) (ys.length + 80) gc nc c1 c2 at_ i t A B X1 X2 X3 X4
  refine Wp.tree (cE_ok 0) tr ⟨by kernel_rfl, by kernel_rfl⟩ ⟨c53, t4', c46, c54, eq4_h _ t _, c55, c56, ?_⟩
  have e10 : denH [.seg A, .blk .fix [(rS a2 l.length c2)], .seg B, .seg X1, .seg X2, .blk .fix [(sI t.p), (sI t.i), (sI t.l), (sI t.r)], .seg X3, .blk .fix [(sI t.p), (sI t.i), (sI t.l), (sI t.r)], .seg X4] = denH [.seg A, .blk .fix [(rS a2 l.length c2)], .seg (B ++ (R ++ X4))] := by rw [eR]; simp [denH, denL, It.den, den0, e4]
  have e11 : denF [.seg A, .blk .fix [(rS a2 l.length c2)], .seg B, .seg X1, .seg X2, .blk .fix [(sI t.p), (sI t.i), (sI t.l), (sI t.r)], .seg X3, .blk .fix [(sI t.p), (sI t.i), (sI t.l), (sI t.r)], .seg X4] (frS 131 [(1, (rS ta tn ct)), (2, (rS ra rn rc)), (3, (sI at_)), (8, (sB false)), (10, (.ptr 1 0)), (11, (rS na l.length nc)), (12, (sI i))]) = denF [.seg A, .blk .fix [(rS a2 l.length c2)], .seg (B ++ (R ++ X4))] (frS 131 [(1, (rS ta tn ct)), (2, (rS ra rn rc)), (3, (sI at_)), (8, (sB false)), (10, (.ptr 1 0)), (11, (rS na l.length nc)), (12, (sI i))]) := by show denF _ _ = denF _ _; kernel_rfl
  show K .normal (denF [.seg A, .blk .fix [(rS a2 l.length c2)], .seg B, .seg X1, .seg X2, .blk .fix [(sI t.p), (sI t.i), (sI t.l), (sI t.r)], .seg X3, .blk .fix [(sI t.p), (sI t.i), (sI t.l), (sI t.r)], .seg X4] (frS 131 [(1, (rS ta tn ct)), (2, (rS ra rn rc)), (3, (sI at_)), (8, (sB false)), (10, (.ptr 1 0)), (11, (rS na l.length nc)), (12, (sI i))])) (denH [.seg A, .blk .fix [(rS a2 l.length c2)], .seg B, .seg X1, .seg X2, .blk .fix [(sI t.p), (sI t.i), (sI t.l), (sI t.r)], .seg X3, .blk .fix [(sI t.p), (sI t.i), (sI t.l), (sI t.r)], .seg X4])
  rw [e10, e11]
  exact kk (R ++ X4) a2 na c2 nc l2 hlen hwf2 (by have := hs8.app X4; simpa using this) (by have := hL5.more X4; simpa using this)
end L
end PR
end Go.Proofs.Ytgdojnamjkhknaa
