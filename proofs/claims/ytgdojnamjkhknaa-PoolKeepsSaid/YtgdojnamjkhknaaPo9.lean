/-
  The law PoolKeeps.
-/
import Derived.Test.YtgdojnamjkhknaaPo8
import Derived.Test.YtgdojnamjkhknaaLcB
namespace Go.Proofs.Ytgdojnamjkhknaa
open Go.Am
set_option linter.all false
set_option maxRecDepth 100000
namespace PO
namespace KP
open TL (TN TNOk)
def hn14c (tv : Value) (id h : Int) (a1 a2 : Option Addr) (n c1 c2 : Nat) (A B Z : Heap) : Hs := (.lp 0 [2, 6, 8] (frS 234 [(2, (sI id)), (6, (sB false)), (8, (.ptr 1 0))]) ⟨[(1, .blk .fix [(.raw (.slice a2 n c2))])], [.seg Z]⟩ .nil)
theorem tree14c (tv : Value) (id h : Int) (a1 a2 : Option Addr) (n c1 c2 : Nat) (A B Z : Heap) : pieceS tblK (gE 0) (cE 0) 400 (fun i => (exL i r14_2 || resLv il14.res i)) c14_1 (hn14c tv id h a1 a2 n c1 c2 A B Z) (frS 234 [(1, (.raw tv)), (2, (sI id)), (6, (sB false)), (8, (.ptr 1 0)), (9, (sI h)), (10, (sI 0))]) [.seg A, .blk .fix [(.raw (.slice a1 n c1))], .seg B] =
(.claim (Wp (Plain.env tblK (gE 0)) (inL [2, 6, 8]) (.block 0 (.loop body14_0)) (denF [.seg A, .blk .fix [(.raw (.slice a1 n c1))], .seg B] (frS 234 [(1, (.raw tv)), (2, (sI id)), (6, (sB false)), (8, (.ptr 1 0)), (9, (sI h)), (10, (sI 0)), (11, (sI 0))])) (denH [.seg A, .blk .fix [(.raw (.slice a1 n c1))], .seg B]) fun e_ s_ h_ => e_ = .normal ∧ s_ = denF [.seg A, .blk .fix [(.raw (.slice a2 n c2))], .seg B, .seg Z] (frS 234 [(2, (sI id)), (6, (sB false)), (8, (.ptr 1 0))]) ∧ h_ = denH [.seg A, .blk .fix [(.raw (.slice a2 n c2))], .seg B, .seg Z])
 (.ret .normal (frS 234 [(2, (sI id)), (6, (sB false)), (8, (.ptr 1 0))]) [.seg A, .blk .fix [(.raw (.slice a2 n c2))], .seg B, .seg Z])) := by kernel_rfl
def hn14h (tv : Value) (id h : Int) (ab a0 a1 : Option Addr) (nb cb_ n c0 c1 : Nat) (H X1 X2 : Heap) : Hs := (.use 26000034 (.raw (.slice a0 n c0)) ⟨[], [.seg X1]⟩ (.use 26000036 (.ptr 2 0) ⟨[], [.blk .fix [(.raw (.slice a1 n c1))], .seg X2]⟩ (.con (.use 26000040 (sI h) ⟨[], []⟩ .nil))))
theorem tree14h (tv : Value) (id h : Int) (ab a0 a1 : Option Addr) (nb cb_ n c0 c1 : Nat) (H X1 X2 : Heap) : pieceS tblK (gE 0) (cE 0) 300 (fun i => (exL i r14_1 || resLv il14.res i)) c14_0 (hn14h tv id h ab a0 a1 nb cb_ n c0 c1 H X1 X2) (frS 234 [(0, (.raw (.slice ab nb cb_))), (1, (.raw tv)), (2, (sI id))]) [.seg H] =
(.claim (opA (Plain.env tblK (gE 0)) (.call 49 [(.const (.slice ab nb cb_))]) [] (denH [.seg H]) = some ((.slice a0 n c0), denH [.seg H, .seg X1]))
 (.claim (opA (Plain.env tblK (gE 0)) (.call 45 [(.const (.slice a0 n c0))]) [] (denH [.seg H, .seg X1]) = some ((denV (ofs [.seg H, .seg X1, .blk .fix [(.raw (.slice a1 n c1))], .seg X2]) (.ptr 2 0)), denH [.seg H, .seg X1, .blk .fix [(.raw (.slice a1 n c1))], .seg X2]))
 (.claim (opA (Plain.env tblK (gE 0)) (.call 47 [(.const (denV (ofs [.seg H, .seg X1, .blk .fix [(.raw (.slice a1 n c1))], .seg X2]) (.ptr 2 0)))]) [] (denH [.seg H, .seg X1, .blk .fix [(.raw (.slice a1 n c1))], .seg X2]) = some ((.int .i64 h), denH [.seg H, .seg X1, .blk .fix [(.raw (.slice a1 n c1))], .seg X2]))
 (.ret .normal (frS 234 [(1, (.raw tv)), (2, (sI id)), (6, (sB false)), (8, (.ptr 2 0)), (9, (sI h)), (10, (sI 0))]) [.seg H, .seg X1, .blk .fix [(.raw (.slice a1 n c1))], .seg X2])))) := by kernel_rfl
def hn14rtrue (id : Int) (ea a1 : Option Addr) (n ec c1 : Nat) (x : L5) (A B X Y : Heap) : Hs := (.use 26000196 (.raw (.tuple ⟨[(.agg ⟨[(.int .i64 x.a), (.int .i64 x.b), (.int .i64 x.c), (.int .i64 x.d), (.bool x.e)]⟩), (.bool true)]⟩)) ⟨[], []⟩ (.use 26000200 (.raw (.slice ea n ec)) ⟨[], [.seg X]⟩ (.lp 8 [6, 28, 29, 30] (frS 234 [(6, (sB false)), (28, (.ptr 3 0)), (29, (sB true)), (30, (sB true))]) ⟨[], [.seg Y]⟩ (.pur 11000222 (.bool true) (.con (.con (.con (.con (.con (.con (.con (.con (.con (.con .nil))))))))))))))
theorem tree14rtrue (id : Int) (ea a1 : Option Addr) (n ec c1 : Nat) (x : L5) (A B X Y : Heap) : pieceS tblK (gE 0) (cE 0) 400 (resLv il14.res) r14_2 (hn14rtrue id ea a1 n ec c1 x A B X Y) (frS 234 [(2, (sI id)), (6, (sB false)), (8, (.ptr 1 0))]) [.seg A, .blk .fix [(.raw (.slice a1 n c1))], .seg B] =
(.claim (opA (Plain.env tblK (gE 0)) (.call 57 [(.const (denV (ofs [.seg A, .blk .fix [(.raw (.slice a1 n c1))], .seg B]) (.ptr 1 0))), (.const (.int .i64 id))]) [] (denH [.seg A, .blk .fix [(.raw (.slice a1 n c1))], .seg B]) = some ((.tuple ⟨[(.agg ⟨[(.int .i64 x.a), (.int .i64 x.b), (.int .i64 x.c), (.int .i64 x.d), (.bool x.e)]⟩), (.bool true)]⟩), denH [.seg A, .blk .fix [(.raw (.slice a1 n c1))], .seg B]))
 (.claim (opA (Plain.env tblK (gE 0)) (.call 58 [(.const (denV (ofs [.seg A, .blk .fix [(.raw (.slice a1 n c1))], .seg B, .blk .fix [(sI x.a), (sI x.b), (sI x.c), (sI x.d), (sB x.e)]]) (.ptr 1 0)))]) [] (denH [.seg A, .blk .fix [(.raw (.slice a1 n c1))], .seg B, .blk .fix [(sI x.a), (sI x.b), (sI x.c), (sI x.d), (sB x.e)]]) = some ((.slice ea n ec), denH [.seg A, .blk .fix [(.raw (.slice a1 n c1))], .seg B, .blk .fix [(sI x.a), (sI x.b), (sI x.c), (sI x.d), (sB x.e)], .seg X]))
 (.claim (Wp (Plain.env tblK (gE 0)) (inL [6, 28, 29, 30]) (.block 8 (.loop body14_8)) (denF [.seg A, .blk .fix [(.raw (.slice a1 n c1))], .seg B, .blk .fix [(sI x.a), (sI x.b), (sI x.c), (sI x.d), (sB x.e)], .seg X] (frS 234 [(2, (sI id)), (6, (sB false)), (28, (.ptr 3 0)), (29, (sB true)), (30, (sB false)), (200, (.raw (.slice ea n ec))), (201, (sI (n : Int))), (202, (sI 0))])) (denH [.seg A, .blk .fix [(.raw (.slice a1 n c1))], .seg B, .blk .fix [(sI x.a), (sI x.b), (sI x.c), (sI x.d), (sB x.e)], .seg X]) fun e_ s_ h_ => e_ = .normal ∧ s_ = denF [.seg A, .blk .fix [(.raw (.slice a1 n c1))], .seg B, .blk .fix [(sI x.a), (sI x.b), (sI x.c), (sI x.d), (sB x.e)], .seg X, .seg Y] (frS 234 [(6, (sB false)), (28, (.ptr 3 0)), (29, (sB true)), (30, (sB true))]) ∧ h_ = denH [.seg A, .blk .fix [(.raw (.slice a1 n c1))], .seg B, .blk .fix [(sI x.a), (sI x.b), (sI x.c), (sI x.d), (sB x.e)], .seg X, .seg Y])
 (.claim (opA (Plain.env tblK (gE 0)) (.eqv false .bool (.const (.bool true)) (.const (.bool true))) [] [] = some ((.bool true), []))
 (.req true (.ret .ret (frS 234 [(6, (sB true))]) [.seg A, .blk .fix [(.raw (.slice a1 n c1))], .seg B, .blk .fix [(sI x.a), (sI x.b), (sI x.c), (sI x.d), (sB x.e)], .seg X, .seg Y])))))) := by kernel_rfl
def hn14rfalse (id : Int) (ea a1 : Option Addr) (n ec c1 : Nat) (x : L5) (A B X Y : Heap) : Hs := (.use 26000196 (.raw (.tuple ⟨[(.agg ⟨[(.int .i64 x.a), (.int .i64 x.b), (.int .i64 x.c), (.int .i64 x.d), (.bool x.e)]⟩), (.bool false)]⟩)) ⟨[], []⟩ (.use 26000200 (.raw (.slice ea n ec)) ⟨[], [.seg X]⟩ (.lp 8 [6, 28, 29, 30] (frS 234 [(6, (sB false)), (28, (.ptr 3 0)), (29, (sB false)), (30, (sB false))]) ⟨[], [.seg Y]⟩ (.pur 11000222 (.bool true) (.con (.con (.con (.con (.con (.pur 11000228 (.bool true) (.con (.con (.con (.con (.con .nil)))))))))))))))
theorem tree14rfalse (id : Int) (ea a1 : Option Addr) (n ec c1 : Nat) (x : L5) (A B X Y : Heap) : pieceS tblK (gE 0) (cE 0) 400 (resLv il14.res) r14_2 (hn14rfalse id ea a1 n ec c1 x A B X Y) (frS 234 [(2, (sI id)), (6, (sB false)), (8, (.ptr 1 0))]) [.seg A, .blk .fix [(.raw (.slice a1 n c1))], .seg B] =
(.claim (opA (Plain.env tblK (gE 0)) (.call 57 [(.const (denV (ofs [.seg A, .blk .fix [(.raw (.slice a1 n c1))], .seg B]) (.ptr 1 0))), (.const (.int .i64 id))]) [] (denH [.seg A, .blk .fix [(.raw (.slice a1 n c1))], .seg B]) = some ((.tuple ⟨[(.agg ⟨[(.int .i64 x.a), (.int .i64 x.b), (.int .i64 x.c), (.int .i64 x.d), (.bool x.e)]⟩), (.bool false)]⟩), denH [.seg A, .blk .fix [(.raw (.slice a1 n c1))], .seg B]))
 (.claim (opA (Plain.env tblK (gE 0)) (.call 58 [(.const (denV (ofs [.seg A, .blk .fix [(.raw (.slice a1 n c1))], .seg B, .blk .fix [(sI x.a), (sI x.b), (sI x.c), (sI x.d), (sB x.e)]]) (.ptr 1 0)))]) [] (denH [.seg A, .blk .fix [(.raw (.slice a1 n c1))], .seg B, .blk .fix [(sI x.a), (sI x.b), (sI x.c), (sI x.d), (sB x.e)]]) = some ((.slice ea n ec), denH [.seg A, .blk .fix [(.raw (.slice a1 n c1))], .seg B, .blk .fix [(sI x.a), (sI x.b), (sI x.c), (sI x.d), (sB x.e)], .seg X]))
 (.claim (Wp (Plain.env tblK (gE 0)) (inL [6, 28, 29, 30]) (.block 8 (.loop body14_8)) (denF [.seg A, .blk .fix [(.raw (.slice a1 n c1))], .seg B, .blk .fix [(sI x.a), (sI x.b), (sI x.c), (sI x.d), (sB x.e)], .seg X] (frS 234 [(2, (sI id)), (6, (sB false)), (28, (.ptr 3 0)), (29, (sB false)), (30, (sB false)), (200, (.raw (.slice ea n ec))), (201, (sI (n : Int))), (202, (sI 0))])) (denH [.seg A, .blk .fix [(.raw (.slice a1 n c1))], .seg B, .blk .fix [(sI x.a), (sI x.b), (sI x.c), (sI x.d), (sB x.e)], .seg X]) fun e_ s_ h_ => e_ = .normal ∧ s_ = denF [.seg A, .blk .fix [(.raw (.slice a1 n c1))], .seg B, .blk .fix [(sI x.a), (sI x.b), (sI x.c), (sI x.d), (sB x.e)], .seg X, .seg Y] (frS 234 [(6, (sB false)), (28, (.ptr 3 0)), (29, (sB false)), (30, (sB false))]) ∧ h_ = denH [.seg A, .blk .fix [(.raw (.slice a1 n c1))], .seg B, .blk .fix [(sI x.a), (sI x.b), (sI x.c), (sI x.d), (sB x.e)], .seg X, .seg Y])
 (.claim (opA (Plain.env tblK (gE 0)) (.eqv false .bool (.const (.bool false)) (.const (.bool false))) [] [] = some ((.bool true), []))
 (.claim (opA (Plain.env tblK (gE 0)) (.eqv false (.cells [false, false, false, false, true]) (.const (.agg ⟨[(.int .i64 x.a), (.int .i64 x.b), (.int .i64 x.c), (.int .i64 x.d), (.bool x.e)]⟩)) (.const (.agg ⟨[(.int .i64 0), (.int .i64 0), (.int .i64 0), (.int .i64 0), (.bool false)]⟩))) [] [] = some ((.bool true), []))
 (.req true (.ret .ret (frS 234 [(6, (sB true))]) [.seg A, .blk .fix [(.raw (.slice a1 n c1))], .seg B, .blk .fix [(sI x.a), (sI x.b), (sI x.c), (sI x.d), (sB x.e)], .seg X, .seg Y]))))))) := by kernel_rfl
/-- Tapes, opened. -/
theorem tapes_of {H : Heap} : ∀ (rows : List (List Value)), (∀ r ∈ rows, F2 (LT.ok H) [.s 1 [.i .i64], .s 1 [.i .i64], .s 1 [.i .i64], .s 1 [.i .i64], .s 1 [.i .i64], .s 1 [.i .i64]] r) → ∃ ts : List TN, rows.length = ts.length ∧ ∀ (j : Nat) (r : List Value) (k : TN), rows[j]? = some r → ts[j]? = some k → TNOk H k r
  | [], _ => ⟨[], rfl, fun j r k h => by simp at h⟩
  | r :: rs, h => by
    obtain ⟨ts, h1, h2⟩ := tapes_of rs fun r hr => h r (by simp [hr])
    have hr := h r (by simp)
    cases hr with
    | cons a0 hr => cases hr with
      | cons a1 hr => cases hr with
        | cons a2 hr => cases hr with
          | cons a3 hr => cases hr with
            | cons a4 hr => cases hr with
              | cons a5 hr => cases hr with
                | nil =>
                  obtain ⟨z0, r0, _⟩ := lt_ints a0
                  obtain ⟨z1, r1, _⟩ := lt_ints a1
                  obtain ⟨z2, r2, _⟩ := lt_ints a2
                  obtain ⟨z3, r3, _⟩ := lt_ints a3
                  obtain ⟨z4, r4, _⟩ := lt_ints a4
                  obtain ⟨z5, r5, _⟩ := lt_ints a5
                  refine ⟨⟨z0, z1, z2, z3, z4, z5⟩ :: ts, by simp [h1], fun j r k e1 e2 => ?_⟩
                  cases j with
                  | zero =>
                    simp at e1 e2
                    subst e1 e2
                    exact ⟨_, _, _, _, _, _, rfl, r0, r1, r2, r3, r4, r5⟩
                  | succ j => exact h2 j r k (by simpa using e1) (by simpa using e2)
theorem nest_tapes {H : Heap} {v : Value} (h : NestOk 6 [.s 1 [.i .i64], .s 1 [.i .i64], .s 1 [.i .i64], .s 1 [.i .i64], .s 1 [.i .i64], .s 1 [.i .i64]] H v) : ∃ (ts : List TN) (ta : Option Addr) (ct : Nat), v = .slice ta ts.length ct ∧ TapesOk H v ts ∧ ts.length ≤ 140737488355328 := by
  obtain ⟨rows, h1, h2, h3⟩ := h
  obtain ⟨ts, h4, h5⟩ := tapes_of rows h2
  have : ∃ a c, v = .slice a rows.length c := by
    rcases h1 with ⟨rfl, rfl⟩ | ⟨B, o, c, blk, rfl, _⟩
    · exact ⟨_, _, rfl⟩
    · exact ⟨_, _, rfl⟩
  obtain ⟨a, c, hv⟩ := this
  exact ⟨ts, a, c, by rw [← h4]; exact hv, ⟨rows, h1, h4, h5⟩, by omega⟩
theorem TapesOk.app {A : Heap} {v : Value} {ts : List TN} (h : TapesOk A v ts) (X : Heap) : TapesOk (A ++ X) v ts := by
  obtain ⟨rows, h1, h2, h3⟩ := h
  exact ⟨rows, h1.app X, h2, fun j r k e1 e2 => TNOk.app (h3 j r k e1 e2) X⟩
theorem loop0 {A B : Heap} {a1 ta : Option Addr} {c1 ct : Nat} {l : List L5} {ts : List TN} {id : Int} (hs : RowsW 5 (A ++ nb (.slice a1 l.length c1) :: B) (.slice a1 l.length c1) (l.map e5)) (hwf : WF l) (hT : TapesOk A (.slice ta ts.length ct) ts) (hn : ts.length ≤ 140737488355328) :
    Wp (Plain.env tblK (gE 0)) (inL [2, 6, 8]) (.block 0 (.loop body14_0)) (denF [.seg A, .blk .fix [(.raw (.slice a1 l.length c1))], .seg B] (frS 234 [(1, (.raw (.slice ta ts.length ct))), (2, (sI id)), (6, (sB false)), (8, (.ptr 1 0)), (9, (sI (S L5.b l))), (10, (sI (S L5.c l))), (11, (sI 0))])) (denH [.seg A, .blk .fix [(.raw (.slice a1 l.length c1))], .seg B]) fun e t h => ∃ (a2 : Option Addr) (c2 : Nat) (Z : Heap) (l2 : List L5), l2.length = l.length ∧ WF l2 ∧ RowsW 5 (A ++ nb (.slice a2 l.length c2) :: (B ++ Z)) (.slice a2 l.length c2) (l2.map e5) ∧ e = .normal ∧
      t = denF [.seg A, .blk .fix [(.raw (.slice a2 l.length c2))], .seg B, .seg Z] (frS 234 [(2, (sI id)), (6, (sB false)), (8, (.ptr 1 0))]) ∧ h = denH [.seg A, .blk .fix [(.raw (.slice a2 l.length c2))], .seg B, .seg Z] := by
  refine Wp.bl (fun m t h => ∃ (i : Nat) (a2 : Option Addr) (c2 : Nat) (B2 : Heap) (l2 : List L5), i + m = min ts.length 8 ∧ (∃ Z, B2 = B ++ Z) ∧ l2.length = l.length ∧ WF l2 ∧ RowsW 5 (A ++ nb (.slice a2 l2.length c2) :: B2) (.slice a2 l2.length c2) (l2.map e5) ∧
      t = denF [.seg A, .blk .fix [(.raw (.slice a2 l2.length c2))], .seg B2] (frS 234 [(1, (.raw (.slice ta ts.length ct))), (2, (sI id)), (6, (sB false)), (8, (.ptr 1 0)), (9, (sI (S L5.b l2))), (10, (sI (S L5.c l2))), (11, (sI i))]) ∧ h = denH [.seg A, .blk .fix [(.raw (.slice a2 l2.length c2))], .seg B2]) ?_ (min ts.length 8) _ _ ⟨0, a1, c1, B, l, by omega, ⟨[], by simp⟩, rfl, hwf, hs, by show denF _ _ = denF _ _; kernel_rfl, rfl⟩
  rintro m t h ⟨i, a2, c2, B2, l2, hi, ⟨Z, hZ⟩, hl2, hw2, hs2, ht, hh⟩
  rw [ht, hh]
  clear ht hh
  by_cases hlt : i < min ts.length 8
  · refine turn hs2 hw2 hT (by omega) (by omega) _ fun B3 a3 c3 l3 ⟨Z3, hZ3⟩ hl3 hw3 hs3 => ?_
    refine ⟨m - 1, by omega, i + 1, a3, c3, B3, l3, by omega, ⟨Z ++ Z3, by rw [hZ3, hZ]; simp⟩, by omega, hw3, by rw [hl3]; exact hs3, ?_, by rw [hl3]⟩
    rw [hl3]
    show denF _ _ = denF _ _; kernel_rfl
  · have tr := tree14t ta none none none none none none none none none a2 none ts.length ct l2.length 0 0 0 0 0 0 0 0 0 0 0 c2 0 (.bool false) (.bool false) (.bool false) (.bool false) (.bool false) (.bool false) id (S L5.b l2) (S L5.c l2) i 0 0 0 0 a0 0 0 A B2 [] [] [] [] [] [] [] [] [] [] [] []
    refine Wp.tree (cE_ok 0) tr ⟨rfl, rfl⟩ ⟨bif_tt _, fun q => by (simp [Bool.cond_eq_ite] at q; omega), fun _ => end_exit ⟨a2, c2, Z, l2, hl2, hw2, by rw [← hl2, ← hZ]; exact hs2, rfl, ?_, ?_⟩⟩
    · rw [← hl2, hZ]; show denF _ _ = denF _ _; kernel_rfl
    · rw [← hl2, hZ]; simp [denH, denL, It.den, den0]
theorem atI_ne {id : Int} : ∀ {l : List L5}, atI id l = none → ∀ x ∈ l, x.a ≠ id
  | [], _, x, h => by cases h
  | y :: r, e, x, h => by
    unfold atI at e
    split at e
    · cases e
    · rename_i hy
      rcases List.mem_cons.1 h with rfl | h
      · simpa using hy
      · refine atI_ne ?_ x h
        cases hr : atI id r with
        | none => rfl
        | some j => rw [hr] at e; cases e
theorem rest {A B : Heap} {a1 : Option Addr} {c1 : Nat} {l : List L5} {id : Int} (hs : RowsW 5 (A ++ nb (.slice a1 l.length c1) :: B) (.slice a1 l.length c1) (l.map e5)) (hwf : WF l) :
    Wp (Plain.env tblK (gE 0)) (resLv il14.res) r14_2 (denF [.seg A, .blk .fix [(.raw (.slice a1 l.length c1))], .seg B] (frS 234 [(2, (sI id)), (6, (sB false)), (8, (.ptr 1 0))])) (denH [.seg A, .blk .fix [(.raw (.slice a1 l.length c1))], .seg B]) fun e s h' => (e = .normal ∨ e = .ret) ∧ ∃ v, resA s h' il14.res = some v ∧ v = .bool true := by
  have hm := hwf.len
  have sA : ∀ X : Heap, denH [.seg X] = X := fun X => by simp [denH, denL, It.den]
  obtain ⟨x, ok, hf⟩ : ∃ x ok, findF id l = (x, ok) := ⟨_, _, rfl⟩
  have g57 := c57 (I1 := [.seg A]) (I2 := [.seg B]) (B := B) rfl (fun f => by simp [denL, It.den]) (by rw [sA]; exact hs) (by omega) hf
  have hs1 : RowsW 5 (denH [.seg A] ++ nb (.slice a1 l.length c1) :: (B ++ [some ⟨.fix, e5 x⟩])) (.slice a1 l.length c1) (l.map e5) := by
    have := hs.app [some ⟨.fix, e5 x⟩]; rw [sA]; simpa using this
  obtain ⟨ea, ec, X, q1, g58⟩ := c58 (I1 := [.seg A]) (I2 := [.seg B, .blk .fix [(sI x.a), (sI x.b), (sI x.c), (sI x.d), (sB x.e)]]) rfl (fun f => by simp [denL, It.den, den0, e5]) hs1 (by omega)
  have he : RowsW 5 (denH [.seg A, .blk .fix [(.raw (.slice a1 l.length c1))], .seg B, .blk .fix [(sI x.a), (sI x.b), (sI x.c), (sI x.d), (sB x.e)], .seg X]) (.slice ea l.length ec) (l.map e5) := by
    have := q1.rows (by decide) []
    rw [sA] at this
    simpa [denH, denL, It.den, den0, e5] using this
  obtain ⟨e, t1, h1, ⟨Y, rfl, rfl, rfl⟩, wZ⟩ := (loopZ (n := 0) (x := x) (id := id) (ok := ok) he (by omega)).exact
  have hin : (l.any fun y => bif y.a == id then eqL y x else false) = ok := by
    unfold findF at hf
    cases ha : atI id l with
    | none =>
      rw [ha] at hf
      cases hf
      rw [List.any_eq_false]
      intro y hy
      have := atI_ne ha y hy
      simp [this]
    | some i =>
      obtain ⟨z, hz, hid⟩ := atI_lt ha
      rw [ha] at hf
      simp only [hz] at hf
      cases hf
      rw [List.any_eq_true]
      exact ⟨x, List.mem_of_getElem? hz, by simp [hid, eqL_iff.2 rfl]⟩
  rw [hin] at wZ
  cases ok with
  | true =>
    refine Wp.tree (cE_ok 0) (tree14rtrue id ea a1 l.length ec c1 x A B X Y) ⟨rfl, rfl⟩ ⟨g57, g58, wZ, by simp [opA, pureA, ev, eqA], rfl, .inr rfl, .bool true, rfl, rfl⟩
  | false =>
    have hx : x = ⟨0, 0, 0, 0, false⟩ := by
      unfold findF at hf
      cases ha : atI id l with
      | none => rw [ha] at hf; cases hf; rfl
      | some i =>
        obtain ⟨z, hz, hid⟩ := atI_lt ha
        rw [ha] at hf
        simp only [hz] at hf
        cases hf
    refine Wp.tree (cE_ok 0) (tree14rfalse id ea a1 l.length ec c1 x A B X Y) ⟨rfl, rfl⟩ ⟨g57, g58, wZ, by simp [opA, pureA, ev, eqA], by rw [hx]; simp [opA, pureA, ev, eqA, eqCells, eq1], rfl, .inr rfl, .bool true, rfl, rfl⟩
theorem loans_wf : ∀ (zs : List Int) (i0 : Nat), (∀ x ∈ (K.loansG i0 zs).map newL, okL x) ∧ ∀ (i : Nat) (x : L5), ((K.loansG i0 zs).map newL)[i]? = some x → x.a = 2 * ((i0 + i : Nat) : Int) + 1
  | [], i0 => ⟨fun x h => by simp [K.loansG] at h, fun i x h => by simp [K.loansG] at h⟩
  | z :: r, i0 => by
    obtain ⟨h1, h2⟩ := loans_wf r (i0 + 1)
    have b0 := wn_lo (x := z) (lo := 0) (hi := 100000) (by decide)
    have b1 := wn_hi (x := z) (lo := 0) (hi := 100000) (by decide)
    refine ⟨fun x h => ?_, fun i x h => ?_⟩
    · simp only [K.loansG, List.map_cons, List.mem_cons] at h
      rcases h with rfl | h
      · exact ⟨b0, b1, by simp [newL], by simp [newL], fun q => (by simp [newL] at q), fun _ => rfl⟩
      · exact h1 x h
    · cases i with
      | zero =>
        simp [K.loansG, newL] at h
        subst h
        simp
      | succ i =>
        have := h2 i x (by simpa [K.loansG] using h)
        rw [this]; omega
theorem wf_new (bs : List Int) : WF ((K.loansF bs).map newL) := by
  obtain ⟨h1, h2⟩ := loans_wf (bs.take 10) 0
  refine ⟨?_, h1, fun i x h => ?_⟩
  · simp only [List.length_map, K.loansF, K.loansG_len, List.length_take]; omega
  · have := h2 i x h
    rw [this, Nat.zero_add]
theorem s_new : ∀ (l : List R2), S L5.c (l.map newL) = 0
  | [] => rfl
  | x :: r => by simp only [List.map_cons, S, newL, s_new r]; rfl
theorem law {H : Heap} {bv : Value} {bs : List Int} {ta : Option Addr} {ct : Nat} {ts : List TN} {id : Int} (hb : RowsW 1 H bv (bs.map ir)) (hT : TapesOk H (.slice ta ts.length ct) ts) (hn : ts.length ≤ 140737488355328) : Sim Try.prog 14 [bv, .slice ta ts.length ct, .int .i64 id] H fun v _ => v = .bool true := by
  obtain ⟨ab, cb, rfl⟩ := hb.slcM
  have sA : ∀ X : Heap, denH [.seg X] = X := fun X => by simp [denH, denL, It.den]
  obtain ⟨l, el⟩ : ∃ l, l = (K.loansF bs).map newL := ⟨_, rfl⟩
  have hwf : WF l := by rw [el]; exact wf_new bs
  have hm := hwf.len
  obtain ⟨aL, nL, cL, X1, r49, h49⟩ := K.run49 (I := [.seg H]) rfl (by rw [sA]; exact hb)
  have hll : l.length = (K.loansF bs).length := by rw [el]; simp
  have en : nL = l.length := by
    obtain ⟨_, _, q⟩ := h49.slc
    simp only [Value.slice.injEq, List.length_map] at q
    rw [hll]; exact q.2.1
  subst en
  have hL : RowsW 2 (denH [.seg H, .seg X1]) (.slice aL l.length cL) ((K.loansF bs).map e2) := by
    have := h49.rows (by decide) []
    simpa [denH, denL, It.den] using this
  obtain ⟨a1, c1, X2, h45, r45⟩ := N.use45 (I := [.seg H, .seg X1]) rfl hL (by omega)
  rw [← el, ← hll] at h45
  rw [← hll] at r45
  obtain ⟨A, eA⟩ : ∃ A, A = H ++ X1 := ⟨_, rfl⟩
  have hs : RowsW 5 (A ++ nb (.slice a1 l.length c1) :: X2) (.slice a1 l.length c1) (l.map e5) := by
    have := h45.rows (by decide) []
    rw [eA]
    simpa [denH, denL, It.den, den0] using this
  have hs' : RowsW 5 (denH [.seg H, .seg X1] ++ nb (.slice a1 l.length c1) :: X2) (.slice a1 l.length c1) (l.map e5) := by
    rw [eA] at hs
    simpa [denH, denL, It.den] using hs
  have g47 := c47 (I1 := [.seg H, .seg X1]) (I2 := [.seg X2]) (B := X2) rfl (fun f => by simp [denL, It.den]) hs' (by omega) hwf.sb.1
  have hT' : TapesOk A (.slice ta ts.length ct) ts := by rw [eA]; exact hT.app X1
  have sc0 : S L5.c l = 0 := by rw [el]; exact s_new _
  have w : Wp (Plain.env tblK (gE 0)) (resLv il14.res) il14.body (denF [.seg H] (frS 234 [(0, (.raw (.slice ab bs.length cb))), (1, (.raw (.slice ta ts.length ct))), (2, (sI id))])) (denH [.seg H]) fun e s h' => (e = .normal ∨ e = .ret) ∧ ∃ v, resA s h' il14.res = some v ∧ v = .bool true := by
    refine Wp.split' (n := 4) (p := c14_0) (q := r14_1) (lv' := fun i => (exL i r14_1 || resLv il14.res i)) (by kernel_rfl) (fun i q => q) ?_
    refine Wp.tree (cE_ok 0) (tree14h (.slice ta ts.length ct) id (S L5.b l) ab aL a1 bs.length cb l.length cL c1 H X1 X2) ⟨rfl, rfl⟩ ⟨call (f := 49) (args := [_]) rfl r49, call (f := 45) (args := [_]) rfl r45, g47, ?_⟩
    have eh : denH [.seg H, .seg X1, .blk .fix [(.raw (.slice a1 l.length c1))], .seg X2] = denH [.seg A, .blk .fix [(.raw (.slice a1 l.length c1))], .seg X2] := by rw [eA]; simp [denH, denL, It.den, den0]
    have ef : denF [.seg H, .seg X1, .blk .fix [(.raw (.slice a1 l.length c1))], .seg X2] (frS 234 [(1, (.raw (.slice ta ts.length ct))), (2, (sI id)), (6, (sB false)), (8, (.ptr 2 0)), (9, (sI (S L5.b l))), (10, (sI 0))]) = denF [.seg A, .blk .fix [(.raw (.slice a1 l.length c1))], .seg X2] (frS 234 [(1, (.raw (.slice ta ts.length ct))), (2, (sI id)), (6, (sB false)), (8, (.ptr 1 0)), (9, (sI (S L5.b l))), (10, (sI 0))]) := by
      have q1 : denF [.seg H, .seg X1, .blk .fix [(.raw (.slice a1 l.length c1))], .seg X2] (frS 234 [(1, (.raw (.slice ta ts.length ct))), (2, (sI id)), (6, (sB false)), (8, (.ptr 2 0)), (9, (sI (S L5.b l))), (10, (sI 0))]) = denF [] (frS 234 [(1, (.raw (.slice ta ts.length ct))), (2, (sI id)), (6, (sB false)), (8, (.raw (denV (ofs [.seg H, .seg X1, .blk .fix [(.raw (.slice a1 l.length c1))], .seg X2]) (.ptr 2 0)))), (9, (sI (S L5.b l))), (10, (sI 0))]) := by show denF _ _ = denF _ _; kernel_rfl
      have q2 : denF [.seg A, .blk .fix [(.raw (.slice a1 l.length c1))], .seg X2] (frS 234 [(1, (.raw (.slice ta ts.length ct))), (2, (sI id)), (6, (sB false)), (8, (.ptr 1 0)), (9, (sI (S L5.b l))), (10, (sI 0))]) = denF [] (frS 234 [(1, (.raw (.slice ta ts.length ct))), (2, (sI id)), (6, (sB false)), (8, (.raw (denV (ofs [.seg A, .blk .fix [(.raw (.slice a1 l.length c1))], .seg X2]) (.ptr 1 0)))), (9, (sI (S L5.b l))), (10, (sI 0))]) := by show denF _ _ = denF _ _; kernel_rfl
      have q3 : denV (ofs [.seg H, .seg X1, .blk .fix [(.raw (.slice a1 l.length c1))], .seg X2]) (.ptr 2 0) = denV (ofs [.seg A, .blk .fix [(.raw (.slice a1 l.length c1))], .seg X2]) (.ptr 1 0) := by rw [eA]; simp [denV, denA, den0, ofs, It.len, off]
      rw [q1, q2, q3]
    show Wp _ _ r14_1 (denF [.seg H, .seg X1, .blk .fix [(.raw (.slice a1 l.length c1))], .seg X2] (frS 234 [(1, (.raw (.slice ta ts.length ct))), (2, (sI id)), (6, (sB false)), (8, (.ptr 2 0)), (9, (sI (S L5.b l))), (10, (sI 0))])) (denH [.seg H, .seg X1, .blk .fix [(.raw (.slice a1 l.length c1))], .seg X2]) _
    rw [eh, ef]
    refine Wp.split' (n := 0) (p := c14_1) (q := r14_2) (lv' := fun i => (exL i r14_2 || resLv il14.res i)) (by kernel_rfl) (fun i q => q) ?_
    have w0 := loop0 (id := id) hs hwf hT' hn
    rw [sc0] at w0
    obtain ⟨e, t1, h1, ⟨a2, c2, Z, l2, hl2, hw2, hs2, rfl, rfl, rfl⟩, w1⟩ := w0.exact
    refine Wp.tree (cE_ok 0) (tree14c (.slice ta ts.length ct) id (S L5.b l) a1 a2 l.length c1 c2 A X2 Z) ⟨rfl, rfl⟩ ⟨w1, ?_⟩
    have eh2 : denH [.seg A, .blk .fix [(.raw (.slice a2 l.length c2))], .seg X2, .seg Z] = denH [.seg A, .blk .fix [(.raw (.slice a2 l.length c2))], .seg (X2 ++ Z)] := by simp [denH, denL, It.den, den0]
    have ef2 : denF [.seg A, .blk .fix [(.raw (.slice a2 l.length c2))], .seg X2, .seg Z] (frS 234 [(2, (sI id)), (6, (sB false)), (8, (.ptr 1 0))]) = denF [.seg A, .blk .fix [(.raw (.slice a2 l.length c2))], .seg (X2 ++ Z)] (frS 234 [(2, (sI id)), (6, (sB false)), (8, (.ptr 1 0))]) := by show denF _ _ = denF _ _; kernel_rfl
    show Wp _ _ r14_2 (denF [.seg A, .blk .fix [(.raw (.slice a2 l.length c2))], .seg X2, .seg Z] (frS 234 [(2, (sI id)), (6, (sB false)), (8, (.ptr 1 0))])) (denH [.seg A, .blk .fix [(.raw (.slice a2 l.length c2))], .seg X2, .seg Z]) _
    rw [eh2, ef2, ← hl2]
    rw [← hl2] at hs2
    exact rest hs2 hw2
  rw [sA] at w
  refine wp_sim' mixed (gE_ok 0) (gE_q 0) st14 ?_
  have ef : [.slice ab bs.length cb, .slice ta ts.length ct, .int .i64 id] ++ List.replicate (il14.ntmps - 3) undef = denF [.seg H] (frS 234 [(0, (.raw (.slice ab bs.length cb))), (1, (.raw (.slice ta ts.length ct))), (2, (sI id))]) := by kernel_rfl
  show Wp _ _ _ ([.slice ab bs.length cb, .slice ta ts.length ct, .int .i64 id] ++ List.replicate (il14.ntmps - 3) undef) _ _
  rw [ef]
  exact w
theorem lawA (H : Heap) (xs : List Value) (h : F2 (fun (p : QM) a => p.Q H a) [qA false [.s 1 [.i .i64]], qN 6 [.s 1 [.i .i64], .s 1 [.i .i64], .s 1 [.i .i64], .s 1 [.i .i64], .s 1 [.i .i64], .s 1 [.i .i64]], qA false [.f (.i .i64)]] xs) : Sim Try.prog 14 xs H fun v _ => v = .bool true := by
  cases h with
  | cons h0 h => cases h with
    | cons h1 h => cases h with
      | cons h2 h => cases h with
        | nil =>
          obtain ⟨bs, hb, _⟩ := lt_ints (arg_one h0)
          obtain ⟨ts, ta, ct, rfl, hT, hn⟩ := nest_tapes h1
          obtain ⟨id, rfl, _⟩ := lt_int (arg_one h2)
          exact law hb hT hn
end KP
end PO
end Go.Proofs.Ytgdojnamjkhknaa
