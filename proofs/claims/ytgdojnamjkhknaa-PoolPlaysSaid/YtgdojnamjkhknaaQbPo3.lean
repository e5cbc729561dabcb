/-
  pool: Apply.
-/
import Derived.Test.YtgdojnamjkhknaaQbPo2
namespace Go.Proofs.Ytgdojnamjkhknaa
open Go.Am
set_option linter.all false
set_option maxRecDepth 100000
namespace PO
def addA (t u : A4) : A4 := ⟨wr (t.p + u.p), wr (t.i + u.i), wr (t.l + u.l), wr (t.r + u.r)⟩
def a0 : A4 := ⟨0, 0, 0, 0⟩
def stepF (l : List L5) (t : A4) (y : R7) : Option (List L5 × A4) := match atI y.a l with
 | none => none
 | some i => match l[i]? with
  | none => none
  | some x => if mayF x y then some (l.set i (doneF x y).1, addA t (doneF x y).2) else none
def runF : List L5 → A4 → List R7 → Option (List L5 × A4)
 | l, t, [] => some (l, t)
 | l, t, y :: r => match stepF l t y with
  | none => none
  | some p => runF p.1 p.2 r
def applyF (l : List L5) (ys : List R7) : Option (List L5 × A4) := if TP.tapeB ys then runF l a0 ys else none
theorem stepF_len {l : List L5} {t : A4} {y : R7} {p : List L5 × A4} (h : stepF l t y = some p) : p.1.length = l.length := by
 unfold stepF at h
 split at h
 ·cases h
 ·split at h
  ·cases h
  ·split at h
   ·cases h; simp
   ·cases h
theorem ptr_at {I1 I2 : SH} (x : It) : denV (ofs (I1 ++ x :: I2)) (.ptr I1.length 0) = .pointer (some ⟨(denH I1).length, 0, none⟩) := by
 simp only [denV, denA, den0, off_app _ _ _ (Nat.le_refl _), denH_len]
theorem rd_mid1 {A B : Heap} {b : Blk} : rd (A ++ some b :: B) A.length = some b := by
 simp [rd]
namespace P
abbrev z4 : It := .blk .fix [(sI 0), (sI 0), (sI 0), (sI 0)]
abbrev aB (t : A4) : It := .blk .fix [(sI t.p), (sI t.i), (sI t.l), (sI t.r)]
abbrev lB (y : R7) : It := .blk .fix [(sI y.a), (sI y.b), (sI y.c), (sI y.d), (sI y.e), (sI y.f), (sB y.g)]
noncomputable def g : Env := fun f => match f with
 | 64 => smry TP.R64.pre TP.R64.res
 | 59 => runE (Plain.env [] (Y.gE 1)) Y.il59
 | 84 => smry T.pre T.res
 | _ => fun _ _ => none
theorem g_ok : EnvOk Try.prog g := fun f => by
 unfold g
 split
 ·exact TP.R64.summ
 ·exact Y.sum59
 ·exact T.summ
 ·exact fun args h v h' e => by cases e
theorem g_q : QuietEnv qt g := fun f args h v h' hf e => by cases hf
noncomputable abbrev gE (k : Nat) : Env := inE tblP [] k g
noncomputable abbrev cE (k : Nat) : CallS := callS tblP [] g 100 k
theorem gE_q (k : Nat) : QuietEnv qt (Plain.env tblP (gE k)) := Plain.quiet (inE_quiet g_q (fun f F h => by cases h) k)
theorem gE_ok (k : Nat) : EnvOk Try.prog (Plain.env tblP (gE k)) := Plain.ok tblP_ok (inE_ok (qt := qt) mixed tblP_ok .nil (fun f F h => by cases h) g_ok g_q k)
theorem cE_ok (k : Nat) : CallOk (Plain.env tblP (gE k)) (cE k) := callS_ok k
def il46 : FnIL := ⟨89, [.cell 4 (some 4), .tmp 5], .seq (.reg [ oT 4 (.alloc [(.int .i64 0), (.int .i64 0), (.int .i64 0), (.int .i64 0)]), oT 5 (.mov (kI 0))]) (.seq (.seq (.reg [ oT 12 (.mov (.tmp 1)), oT 13 (.call 64 [(.tmp 12)]), oT 14 (.un .not (.tmp 13))]) (.ite (.tmp 14) (.seq (.reg [ oT 15 (.build [(.int .i64 0), (.int .i64 0), (.int .i64 0), (.int .i64 0)] []), oN (.store (.tmp 4) (.tmp 15) 4), oT 5 (.mov (kI 3))]) (.ret)) (.skip))) (.seq (.reg [ oT 16 (.mov (.tmp 0)), oT 17 (.call 59 [(.tmp 16)]), oT 6 (.mov (.tmp 17))]) (.seq (.reg [ oT 7 (.alloc [(.int .i64 0), (.int .i64 0), (.int .i64 0), (.int .i64 0)])]) (.seq (.seq (.reg [ oT 18 (.mov (.tmp 1)), oT 19 (.len (.tmp 18)), oT 20 (.mov (kI 0))]) (.block 0 (.loop (.seq (.reg [ oT 21 (.bin .lss (.tmp 20) (.tmp 19))]) (.seq (.ite (.tmp 21) (.skip) (.exit 0)) (.seq (.block 1 (.seq (.reg [ oT 22 (.iadr 7 none (.tmp 18) (.tmp 20)), oT 23 (.load (.tmp 22) (some 7)), oT 9 (.alloc [(.int .i64 0), (.int .i64 0), (.int .i64 0), (.int .i64 0), (.int .i64 0), (.int .i64 0), (.bool false)]), oN (.store (.tmp 9) (.tmp 23) 7)]) (.seq (.reg [ oT 24 (.mov (.tmp 6)), oT 25 (.fadr 0 (.tmp 9)), oT 26 (.load (.tmp 25) none), oT 27 (.call 84 [(.tmp 24), (.tmp 26)]), oT 10 (.mov (.tmp 27))]) (.seq (.seq (.dreg [ oT 28 (.mov (.tmp 10)), oT 29 (.bin .lss (.tmp 28) (kI 0)), oT 30 (.mov (.tmp 29)), ⟨(some 31), (some (30, false)), .mov (.tmp 6)⟩, ⟨(some 32), (some (30, false)), .nilck (.tmp 31)⟩, ⟨(some 33), (some (30, false)), .fadr 0 (.tmp 32)⟩, ⟨(some 34), (some (30, false)), .load (.tmp 33) none⟩, ⟨(some 35), (some (30, false)), .mov (.tmp 10)⟩, ⟨(some 36), (some (30, false)), .iadr 5 none (.tmp 34) (.tmp 35)⟩, ⟨(some 37), (some (30, false)), .load (.tmp 36) (some 5)⟩, ⟨(some 38), (some (30, false)), .load (.tmp 9) (some 7)⟩, ⟨(some 39), (some (30, false)), .call 85 [(.tmp 37), (.tmp 38)]⟩, ⟨(some 40), (some (30, false)), .un .not (.tmp 39)⟩, oT 41 (.pick (.tmp 30) (.const (.bool true)) (.tmp 40))] []) (.ite (.tmp 41) (.seq (.reg [ oT 42 (.build [(.int .i64 0), (.int .i64 0), (.int .i64 0), (.int .i64 0)] []), oN (.store (.tmp 4) (.tmp 42) 4), oT 5 (.mov (kI 3))]) (.ret)) (.skip))) (.seq (.reg [ oT 11 (.alloc [(.int .i64 0), (.int .i64 0), (.int .i64 0), (.int .i64 0)])]) (.seq (.dreg [ oT 44 (.mov (.tmp 6)), oT 45 (.nilck (.tmp 44)), oT 46 (.fadr 0 (.tmp 45)), oT 47 (.load (.tmp 46) none), oT 48 (.mov (.tmp 10)), oT 49 (.mov (.tmp 6)), oT 50 (.nilck (.tmp 49)), oT 51 (.fadr 0 (.tmp 50)), oT 52 (.load (.tmp 51) none), oT 53 (.mov (.tmp 10)), oT 54 (.iadr 5 none (.tmp 52) (.tmp 53)), oT 55 (.load (.tmp 54) (some 5)), oT 56 (.load (.tmp 9) (some 7)), oT 57 (.call 86 [(.tmp 55), (.tmp 56)]), oT 43 (.mov (.tmp 57)), oT 58 (.ext 0 (.tmp 43)), oT 59 (.ext 1 (.tmp 43)), oT 60 (.iadr 5 none (.tmp 47) (.tmp 48)), oN (.store (.tmp 60) (.tmp 58) 5), oN (.store (.tmp 11) (.tmp 59) 4)] [(3, 13)]) (.reg [ oT 61 (.fadr 0 (.tmp 7)), oT 62 (.load (.tmp 61) none), oT 63 (.fadr 0 (.tmp 11)), oT 64 (.load (.tmp 63) none), oT 65 (.bin .add (.tmp 62) (.tmp 64)), oT 66 (.fadr 1 (.tmp 7)), oT 67 (.load (.tmp 66) none), oT 68 (.fadr 1 (.tmp 11)), oT 69 (.load (.tmp 68) none), oT 70 (.bin .add (.tmp 67) (.tmp 69)), oT 71 (.fadr 2 (.tmp 7)), oT 72 (.load (.tmp 71) none), oT 73 (.fadr 2 (.tmp 11)), oT 74 (.load (.tmp 73) none), oT 75 (.bin .add (.tmp 72) (.tmp 74)), oT 76 (.fadr 3 (.tmp 7)), oT 77 (.load (.tmp 76) none), oT 78 (.fadr 3 (.tmp 11)), oT 79 (.load (.tmp 78) none), oT 80 (.bin .add (.tmp 77) (.tmp 79)), oT 81 (.build [(.int .i64 0), (.int .i64 0), (.int .i64 0), (.int .i64 0)] [(0, 1, (.tmp 65)), (1, 1, (.tmp 70)), (2, 1, (.tmp 75)), (3, 1, (.tmp 80))]), oN (.store (.tmp 7) (.tmp 81) 4)]))))))) (.reg [ oT 82 (.bin .add (.tmp 20) (kI 1)), oT 20 (.mov (.tmp 82))]))))))) (.seq (.reg [ oT 83 (.mov (.tmp 0)), oT 84 (.mov (.tmp 6)), oT 85 (.nilck (.tmp 84)), oT 86 (.load (.tmp 85) (some 1)), oT 87 (.nilck (.tmp 83)), oN (.store (.tmp 87) (.tmp 86) 1)]) (.seq (.reg [ oT 88 (.load (.tmp 7) (some 4)), oN (.store (.tmp 4) (.tmp 88) 4), oT 5 (.mov (kI 0))]) (.ret)))))))⟩
theorem st46 : stF Try.prog qt 46 = some il46 := by kernel_rfl
def body46_0 : IL := .seq (.reg [ oT 21 (.bin .lss (.tmp 20) (.tmp 19))]) (.seq (.ite (.tmp 21) (.skip) (.exit 0)) (.seq (.block 1 (.seq (.reg [ oT 22 (.iadr 7 none (.tmp 18) (.tmp 20)), oT 23 (.load (.tmp 22) (some 7)), oT 9 (.alloc [(.int .i64 0), (.int .i64 0), (.int .i64 0), (.int .i64 0), (.int .i64 0), (.int .i64 0), (.bool false)]), oN (.store (.tmp 9) (.tmp 23) 7)]) (.seq (.reg [ oT 24 (.mov (.tmp 6)), oT 25 (.fadr 0 (.tmp 9)), oT 26 (.load (.tmp 25) none), oT 27 (.call 84 [(.tmp 24), (.tmp 26)]), oT 10 (.mov (.tmp 27))]) (.seq (.seq (.dreg [ oT 28 (.mov (.tmp 10)), oT 29 (.bin .lss (.tmp 28) (kI 0)), oT 30 (.mov (.tmp 29)), ⟨(some 31), (some (30, false)), .mov (.tmp 6)⟩, ⟨(some 32), (some (30, false)), .nilck (.tmp 31)⟩, ⟨(some 33), (some (30, false)), .fadr 0 (.tmp 32)⟩, ⟨(some 34), (some (30, false)), .load (.tmp 33) none⟩, ⟨(some 35), (some (30, false)), .mov (.tmp 10)⟩, ⟨(some 36), (some (30, false)), .iadr 5 none (.tmp 34) (.tmp 35)⟩, ⟨(some 37), (some (30, false)), .load (.tmp 36) (some 5)⟩, ⟨(some 38), (some (30, false)), .load (.tmp 9) (some 7)⟩, ⟨(some 39), (some (30, false)), .call 85 [(.tmp 37), (.tmp 38)]⟩, ⟨(some 40), (some (30, false)), .un .not (.tmp 39)⟩, oT 41 (.pick (.tmp 30) (.const (.bool true)) (.tmp 40))] []) (.ite (.tmp 41) (.seq (.reg [ oT 42 (.build [(.int .i64 0), (.int .i64 0), (.int .i64 0), (.int .i64 0)] []), oN (.store (.tmp 4) (.tmp 42) 4), oT 5 (.mov (kI 3))]) (.ret)) (.skip))) (.seq (.reg [ oT 11 (.alloc [(.int .i64 0), (.int .i64 0), (.int .i64 0), (.int .i64 0)])]) (.seq (.dreg [ oT 44 (.mov (.tmp 6)), oT 45 (.nilck (.tmp 44)), oT 46 (.fadr 0 (.tmp 45)), oT 47 (.load (.tmp 46) none), oT 48 (.mov (.tmp 10)), oT 49 (.mov (.tmp 6)), oT 50 (.nilck (.tmp 49)), oT 51 (.fadr 0 (.tmp 50)), oT 52 (.load (.tmp 51) none), oT 53 (.mov (.tmp 10)), oT 54 (.iadr 5 none (.tmp 52) (.tmp 53)), oT 55 (.load (.tmp 54) (some 5)), oT 56 (.load (.tmp 9) (some 7)), oT 57 (.call 86 [(.tmp 55), (.tmp 56)]), oT 43 (.mov (.tmp 57)), oT 58 (.ext 0 (.tmp 43)), oT 59 (.ext 1 (.tmp 43)), oT 60 (.iadr 5 none (.tmp 47) (.tmp 48)), oN (.store (.tmp 60) (.tmp 58) 5), oN (.store (.tmp 11) (.tmp 59) 4)] [(3, 13)]) (.reg [ oT 61 (.fadr 0 (.tmp 7)), oT 62 (.load (.tmp 61) none), oT 63 (.fadr 0 (.tmp 11)), oT 64 (.load (.tmp 63) none), oT 65 (.bin .add (.tmp 62) (.tmp 64)), oT 66 (.fadr 1 (.tmp 7)), oT 67 (.load (.tmp 66) none), oT 68 (.fadr 1 (.tmp 11)), oT 69 (.load (.tmp 68) none), oT 70 (.bin .add (.tmp 67) (.tmp 69)), oT 71 (.fadr 2 (.tmp 7)), oT 72 (.load (.tmp 71) none), oT 73 (.fadr 2 (.tmp 11)), oT 74 (.load (.tmp 73) none), oT 75 (.bin .add (.tmp 72) (.tmp 74)), oT 76 (.fadr 3 (.tmp 7)), oT 77 (.load (.tmp 76) none), oT 78 (.fadr 3 (.tmp 11)), oT 79 (.load (.tmp 78) none), oT 80 (.bin .add (.tmp 77) (.tmp 79)), oT 81 (.build [(.int .i64 0), (.int .i64 0), (.int .i64 0), (.int .i64 0)] [(0, 1, (.tmp 65)), (1, 1, (.tmp 70)), (2, 1, (.tmp 75)), (3, 1, (.tmp 80))]), oN (.store (.tmp 7) (.tmp 81) 4)]))))))) (.reg [ oT 82 (.bin .add (.tmp 20) (kI 1)), oT 20 (.mov (.tmp 82))])))
def hn46n (p : Nat) (s a2 : Option Addr) (n c n2 c2 : Nat) (i r : Int) (x : L5) (y : R7) (t : A4) (b1 o1 b2 o2 : Nat) (G X X2 J : Heap) : Hs := (.sym (.pur 22000022 (.pointer (some ⟨b1, o1, none⟩)) (.bas 7000023 (.agg ⟨[(.int .i64 y.a), (.int .i64 y.b), (.int .i64 y.c), (.int .i64 y.d), (.int .i64 y.e), (.int .i64 y.f), (.bool y.g)]⟩) (.use 26000027 (sI r) ⟨[], []⟩ (.yes (.con (.con (.con (.con (.con (.con (.con (.con (.con (.con (.con .nil))))))))))))))) .nil)
theorem tree46n (p : Nat) (s a2 : Option Addr) (n c n2 c2 : Nat) (i r : Int) (x : L5) (y : R7) (t : A4) (b1 o1 b2 o2 : Nat) (G X X2 J : Heap) : pieceS tblP (gE 0) (cE 0) 300 (fun i => exL i body46_0 || inL [0, 4, 5, 6, 7] i) body46_0 (hn46n p s a2 n c n2 c2 i r x y t b1 o1 b2 o2 G X X2 J) (frS 89 [(0, (.raw (.pointer (some ⟨p, 0, none⟩)))), (4, (.ptr 1 0)), (5, (sI 0)), (6, (.ptr 3 0)), (7, (.ptr 4 0)), (18, (rS s n c)), (19, (sI (n : Int))), (20, (sI i))]) [.seg G, .blk .fix [(sI 0), (sI 0), (sI 0), (sI 0)], .seg X, .blk .fix [(rS a2 n2 c2)], .blk .fix [(sI t.p), (sI t.i), (sI t.l), (sI t.r)], .seg J] =
(.br (decide (i < (n : Int)))
 (.claim (opA (Plain.env tblP (gE 0)) (.iadr 7 none (.const (.slice s n c)) (kI i)) [] [] = some ((.pointer (some ⟨b1, o1, none⟩)), []))
 (.claim (opA (Plain.env tblP (gE 0)) (.load (.const (.pointer (some ⟨b1, o1, none⟩))) (some 7)) [] G = some ((.agg ⟨[(.int .i64 y.a), (.int .i64 y.b), (.int .i64 y.c), (.int .i64 y.d), (.int .i64 y.e), (.int .i64 y.f), (.bool y.g)]⟩), G))
 (.claim (opA (Plain.env tblP (gE 0)) (.call 84 [(.const (denV (ofs [.seg G, .blk .fix [(sI 0), (sI 0), (sI 0), (sI 0)], .seg X, .blk .fix [(rS a2 n2 c2)], .blk .fix [(sI t.p), (sI t.i), (sI t.l), (sI t.r)], .seg J, .blk .fix [(sI y.a), (sI y.b), (sI y.c), (sI y.d), (sI y.e), (sI y.f), (sB y.g)]]) (.ptr 3 0))), (kI y.a)]) [] (denH [.seg G, .blk .fix [(sI 0), (sI 0), (sI 0), (sI 0)], .seg X, .blk .fix [(rS a2 n2 c2)], .blk .fix [(sI t.p), (sI t.i), (sI t.l), (sI t.r)], .seg J, .blk .fix [(sI y.a), (sI y.b), (sI y.c), (sI y.d), (sI y.e), (sI y.f), (sB y.g)]]) = some ((.int .i64 r), denH [.seg G, .blk .fix [(sI 0), (sI 0), (sI 0), (sI 0)], .seg X, .blk .fix [(rS a2 n2 c2)], .blk .fix [(sI t.p), (sI t.i), (sI t.l), (sI t.r)], .seg J, .blk .fix [(sI y.a), (sI y.b), (sI y.c), (sI y.d), (sI y.e), (sI y.f), (sB y.g)]]))
 (.req true (.req (decide (r < 0)) (.ret .ret (frS 89 [(0, (.raw (.pointer (some ⟨p, 0, none⟩)))), (4, (.ptr 1 0)), (5, (sI 3)), (6, (.ptr 3 0)), (7, (.ptr 4 0)), (18, (rS s n c)), (19, (sI (n : Int))), (20, (sI i))]) [.seg G, .blk .fix [(sI 0), (sI 0), (sI 0), (sI 0)], .seg X, .blk .fix [(rS a2 n2 c2)], .blk .fix [(sI t.p), (sI t.i), (sI t.l), (sI t.r)], .seg J, .blk .fix [(sI y.a), (sI y.b), (sI y.c), (sI y.d), (sI y.e), (sI y.f), (sB y.g)]]))))))
 (.ret (.exit 0) (frS 89 [(0, (.raw (.pointer (some ⟨p, 0, none⟩)))), (4, (.ptr 1 0)), (5, (sI 0)), (6, (.ptr 3 0)), (7, (.ptr 4 0)), (18, (rS s n c)), (19, (sI (n : Int))), (20, (sI i))]) [.seg G, .blk .fix [(sI 0), (sI 0), (sI 0), (sI 0)], .seg X, .blk .fix [(rS a2 n2 c2)], .blk .fix [(sI t.p), (sI t.i), (sI t.l), (sI t.r)], .seg J])) := by kernel_rfl
def hn46m (p : Nat) (s a2 : Option Addr) (n c n2 c2 : Nat) (i r : Int) (x : L5) (y : R7) (t : A4) (b1 o1 b2 o2 : Nat) (G X X2 J : Heap) : Hs := (.sym (.pur 22000022 (.pointer (some ⟨b1, o1, none⟩)) (.bas 7000023 (.agg ⟨[(.int .i64 y.a), (.int .i64 y.b), (.int .i64 y.c), (.int .i64 y.d), (.int .i64 y.e), (.int .i64 y.f), (.bool y.g)]⟩) (.use 26000027 (sI r) ⟨[], []⟩ (.no (.con (.con (.con (.con (.con (.pur 22000036 (.pointer (some ⟨b2, o2, none⟩)) (.con (.use 7000037 (.raw (.agg ⟨[(.int .i64 x.a), (.int .i64 x.b), (.int .i64 x.c), (.int .i64 x.d), (.bool x.e)]⟩)) ⟨[], []⟩ (.con (.con (.con (.con (.yes .nil))))))))))))))))) .nil)
theorem tree46m (p : Nat) (s a2 : Option Addr) (n c n2 c2 : Nat) (i r : Int) (x : L5) (y : R7) (t : A4) (b1 o1 b2 o2 : Nat) (G X X2 J : Heap) : pieceS tblP (gE 0) (cE 0) 300 (fun i => exL i body46_0 || inL [0, 4, 5, 6, 7] i) body46_0 (hn46m p s a2 n c n2 c2 i r x y t b1 o1 b2 o2 G X X2 J) (frS 89 [(0, (.raw (.pointer (some ⟨p, 0, none⟩)))), (4, (.ptr 1 0)), (5, (sI 0)), (6, (.ptr 3 0)), (7, (.ptr 4 0)), (18, (rS s n c)), (19, (sI (n : Int))), (20, (sI i))]) [.seg G, .blk .fix [(sI 0), (sI 0), (sI 0), (sI 0)], .seg X, .blk .fix [(rS a2 n2 c2)], .blk .fix [(sI t.p), (sI t.i), (sI t.l), (sI t.r)], .seg J] =
(.br (decide (i < (n : Int)))
 (.claim (opA (Plain.env tblP (gE 0)) (.iadr 7 none (.const (.slice s n c)) (kI i)) [] [] = some ((.pointer (some ⟨b1, o1, none⟩)), []))
 (.claim (opA (Plain.env tblP (gE 0)) (.load (.const (.pointer (some ⟨b1, o1, none⟩))) (some 7)) [] G = some ((.agg ⟨[(.int .i64 y.a), (.int .i64 y.b), (.int .i64 y.c), (.int .i64 y.d), (.int .i64 y.e), (.int .i64 y.f), (.bool y.g)]⟩), G))
 (.claim (opA (Plain.env tblP (gE 0)) (.call 84 [(.const (denV (ofs [.seg G, .blk .fix [(sI 0), (sI 0), (sI 0), (sI 0)], .seg X, .blk .fix [(rS a2 n2 c2)], .blk .fix [(sI t.p), (sI t.i), (sI t.l), (sI t.r)], .seg J, .blk .fix [(sI y.a), (sI y.b), (sI y.c), (sI y.d), (sI y.e), (sI y.f), (sB y.g)]]) (.ptr 3 0))), (kI y.a)]) [] (denH [.seg G, .blk .fix [(sI 0), (sI 0), (sI 0), (sI 0)], .seg X, .blk .fix [(rS a2 n2 c2)], .blk .fix [(sI t.p), (sI t.i), (sI t.l), (sI t.r)], .seg J, .blk .fix [(sI y.a), (sI y.b), (sI y.c), (sI y.d), (sI y.e), (sI y.f), (sB y.g)]]) = some ((.int .i64 r), denH [.seg G, .blk .fix [(sI 0), (sI 0), (sI 0), (sI 0)], .seg X, .blk .fix [(rS a2 n2 c2)], .blk .fix [(sI t.p), (sI t.i), (sI t.l), (sI t.r)], .seg J, .blk .fix [(sI y.a), (sI y.b), (sI y.c), (sI y.d), (sI y.e), (sI y.f), (sB y.g)]]))
 (.req true (.req (!(decide (r < 0))) (.claim (opA (Plain.env tblP (gE 0)) (.iadr 5 none (.const (.slice a2 n2 c2)) (kI r)) [] [] = some ((.pointer (some ⟨b2, o2, none⟩)), []))
 (.claim (opA (Plain.env tblP (gE 0)) (.load (.const (.pointer (some ⟨b2, o2, none⟩))) (some 5)) [] (denH [.seg G, .blk .fix [(sI 0), (sI 0), (sI 0), (sI 0)], .seg X, .blk .fix [(rS a2 n2 c2)], .blk .fix [(sI t.p), (sI t.i), (sI t.l), (sI t.r)], .seg J, .blk .fix [(sI y.a), (sI y.b), (sI y.c), (sI y.d), (sI y.e), (sI y.f), (sB y.g)]]) = some ((.agg ⟨[(.int .i64 x.a), (.int .i64 x.b), (.int .i64 x.c), (.int .i64 x.d), (.bool x.e)]⟩), denH [.seg G, .blk .fix [(sI 0), (sI 0), (sI 0), (sI 0)], .seg X, .blk .fix [(rS a2 n2 c2)], .blk .fix [(sI t.p), (sI t.i), (sI t.l), (sI t.r)], .seg J, .blk .fix [(sI y.a), (sI y.b), (sI y.c), (sI y.d), (sI y.e), (sI y.f), (sB y.g)]]))
 (.req true (.req (!(mayF x y)) (.ret .ret (frS 89 [(0, (.raw (.pointer (some ⟨p, 0, none⟩)))), (4, (.ptr 1 0)), (5, (sI 3)), (6, (.ptr 3 0)), (7, (.ptr 4 0)), (18, (rS s n c)), (19, (sI (n : Int))), (20, (sI i))]) [.seg G, .blk .fix [(sI 0), (sI 0), (sI 0), (sI 0)], .seg X, .blk .fix [(rS a2 n2 c2)], .blk .fix [(sI t.p), (sI t.i), (sI t.l), (sI t.r)], .seg J, .blk .fix [(sI y.a), (sI y.b), (sI y.c), (sI y.d), (sI y.e), (sI y.f), (sB y.g)]]))))))))))
 (.ret (.exit 0) (frS 89 [(0, (.raw (.pointer (some ⟨p, 0, none⟩)))), (4, (.ptr 1 0)), (5, (sI 0)), (6, (.ptr 3 0)), (7, (.ptr 4 0)), (18, (rS s n c)), (19, (sI (n : Int))), (20, (sI i))]) [.seg G, .blk .fix [(sI 0), (sI 0), (sI 0), (sI 0)], .seg X, .blk .fix [(rS a2 n2 c2)], .blk .fix [(sI t.p), (sI t.i), (sI t.l), (sI t.r)], .seg J])) := by kernel_rfl
def hn46k (p : Nat) (s a2 : Option Addr) (n c n2 c2 : Nat) (i r : Int) (x : L5) (y : R7) (t : A4) (b1 o1 b2 o2 : Nat) (G X X2 J : Heap) : Hs := (.sym (.pur 22000022 (.pointer (some ⟨b1, o1, none⟩)) (.bas 7000023 (.agg ⟨[(.int .i64 y.a), (.int .i64 y.b), (.int .i64 y.c), (.int .i64 y.d), (.int .i64 y.e), (.int .i64 y.f), (.bool y.g)]⟩) (.use 26000027 (sI r) ⟨[], []⟩ (.no (.con (.con (.con (.con (.con (.pur 22000036 (.pointer (some ⟨b2, o2, none⟩)) (.con (.use 7000037 (.raw (.agg ⟨[(.int .i64 x.a), (.int .i64 x.b), (.int .i64 x.c), (.int .i64 x.d), (.bool x.e)]⟩)) ⟨[], []⟩ (.con (.con (.con (.con (.no (.crs [none, none, none, none, none, none, none, none, none, none, some ((.raw (.pointer (some ⟨b2, o2, none⟩))), ⟨[], []⟩), some ((.raw (.agg ⟨[(.int .i64 x.a), (.int .i64 x.b), (.int .i64 x.c), (.int .i64 x.d), (.bool x.e)]⟩)), ⟨[], []⟩), none, none, none, none, none, some ((.raw (.pointer (some ⟨b2, o2, none⟩))), ⟨[], []⟩), some ((.raw (.tuple ⟨[]⟩)), ⟨[(2, .seg X2)], []⟩), none] .nil)))))))))))))))))) .nil)
theorem tree46k (p : Nat) (s a2 : Option Addr) (n c n2 c2 : Nat) (i r : Int) (x : L5) (y : R7) (t : A4) (b1 o1 b2 o2 : Nat) (G X X2 J : Heap) : pieceS tblP (gE 0) (cE 0) 300 (fun i => exL i body46_0 || inL [0, 4, 5, 6, 7] i) body46_0 (hn46k p s a2 n c n2 c2 i r x y t b1 o1 b2 o2 G X X2 J) (frS 89 [(0, (.raw (.pointer (some ⟨p, 0, none⟩)))), (4, (.ptr 1 0)), (5, (sI 0)), (6, (.ptr 3 0)), (7, (.ptr 4 0)), (18, (rS s n c)), (19, (sI (n : Int))), (20, (sI i))]) [.seg G, .blk .fix [(sI 0), (sI 0), (sI 0), (sI 0)], .seg X, .blk .fix [(rS a2 n2 c2)], .blk .fix [(sI t.p), (sI t.i), (sI t.l), (sI t.r)], .seg J] =
(.br (decide (i < (n : Int)))
 (.claim (opA (Plain.env tblP (gE 0)) (.iadr 7 none (.const (.slice s n c)) (kI i)) [] [] = some ((.pointer (some ⟨b1, o1, none⟩)), []))
 (.claim (opA (Plain.env tblP (gE 0)) (.load (.const (.pointer (some ⟨b1, o1, none⟩))) (some 7)) [] G = some ((.agg ⟨[(.int .i64 y.a), (.int .i64 y.b), (.int .i64 y.c), (.int .i64 y.d), (.int .i64 y.e), (.int .i64 y.f), (.bool y.g)]⟩), G))
 (.claim (opA (Plain.env tblP (gE 0)) (.call 84 [(.const (denV (ofs [.seg G, .blk .fix [(sI 0), (sI 0), (sI 0), (sI 0)], .seg X, .blk .fix [(rS a2 n2 c2)], .blk .fix [(sI t.p), (sI t.i), (sI t.l), (sI t.r)], .seg J, .blk .fix [(sI y.a), (sI y.b), (sI y.c), (sI y.d), (sI y.e), (sI y.f), (sB y.g)]]) (.ptr 3 0))), (kI y.a)]) [] (denH [.seg G, .blk .fix [(sI 0), (sI 0), (sI 0), (sI 0)], .seg X, .blk .fix [(rS a2 n2 c2)], .blk .fix [(sI t.p), (sI t.i), (sI t.l), (sI t.r)], .seg J, .blk .fix [(sI y.a), (sI y.b), (sI y.c), (sI y.d), (sI y.e), (sI y.f), (sB y.g)]]) = some ((.int .i64 r), denH [.seg G, .blk .fix [(sI 0), (sI 0), (sI 0), (sI 0)], .seg X, .blk .fix [(rS a2 n2 c2)], .blk .fix [(sI t.p), (sI t.i), (sI t.l), (sI t.r)], .seg J, .blk .fix [(sI y.a), (sI y.b), (sI y.c), (sI y.d), (sI y.e), (sI y.f), (sB y.g)]]))
 (.req true (.req (!(decide (r < 0))) (.claim (opA (Plain.env tblP (gE 0)) (.iadr 5 none (.const (.slice a2 n2 c2)) (kI r)) [] [] = some ((.pointer (some ⟨b2, o2, none⟩)), []))
 (.claim (opA (Plain.env tblP (gE 0)) (.load (.const (.pointer (some ⟨b2, o2, none⟩))) (some 5)) [] (denH [.seg G, .blk .fix [(sI 0), (sI 0), (sI 0), (sI 0)], .seg X, .blk .fix [(rS a2 n2 c2)], .blk .fix [(sI t.p), (sI t.i), (sI t.l), (sI t.r)], .seg J, .blk .fix [(sI y.a), (sI y.b), (sI y.c), (sI y.d), (sI y.e), (sI y.f), (sB y.g)]]) = some ((.agg ⟨[(.int .i64 x.a), (.int .i64 x.b), (.int .i64 x.c), (.int .i64 x.d), (.bool x.e)]⟩), denH [.seg G, .blk .fix [(sI 0), (sI 0), (sI 0), (sI 0)], .seg X, .blk .fix [(rS a2 n2 c2)], .blk .fix [(sI t.p), (sI t.i), (sI t.l), (sI t.r)], .seg J, .blk .fix [(sI y.a), (sI y.b), (sI y.c), (sI y.d), (sI y.e), (sI y.f), (sB y.g)]]))
 (.req true (.req (!(!(mayF x y))) (.req true (.req true (.req true (.req true (.req true (.req true (.req true (.req true (.req true (.req true (.claim (opA (Plain.env tblP (gE 0)) (.iadr 5 none (.const (.slice a2 n2 c2)) (kI r)) [] (denH [.seg G, .blk .fix [(sI 0), (sI 0), (sI 0), (sI 0)], .seg X, .blk .fix [(rS a2 n2 c2)], .blk .fix [(sI t.p), (sI t.i), (sI t.l), (sI t.r)], .seg J, .blk .fix [(sI y.a), (sI y.b), (sI y.c), (sI y.d), (sI y.e), (sI y.f), (sB y.g)], .blk .fix [(sI 0), (sI 0), (sI 0), (sI 0)]]) = some ((.pointer (some ⟨b2, o2, none⟩)), denH [.seg G, .blk .fix [(sI 0), (sI 0), (sI 0), (sI 0)], .seg X, .blk .fix [(rS a2 n2 c2)], .blk .fix [(sI t.p), (sI t.i), (sI t.l), (sI t.r)], .seg J, .blk .fix [(sI y.a), (sI y.b), (sI y.c), (sI y.d), (sI y.e), (sI y.f), (sB y.g)], .blk .fix [(sI 0), (sI 0), (sI 0), (sI 0)]]))
 (.claim (opA (Plain.env tblP (gE 0)) (.load (.const (.pointer (some ⟨b2, o2, none⟩))) (some 5)) [] (denH [.seg G, .blk .fix [(sI 0), (sI 0), (sI 0), (sI 0)], .seg X, .blk .fix [(rS a2 n2 c2)], .blk .fix [(sI t.p), (sI t.i), (sI t.l), (sI t.r)], .seg J, .blk .fix [(sI y.a), (sI y.b), (sI y.c), (sI y.d), (sI y.e), (sI y.f), (sB y.g)], .blk .fix [(sI 0), (sI 0), (sI 0), (sI 0)]]) = some ((.agg ⟨[(.int .i64 x.a), (.int .i64 x.b), (.int .i64 x.c), (.int .i64 x.d), (.bool x.e)]⟩), denH [.seg G, .blk .fix [(sI 0), (sI 0), (sI 0), (sI 0)], .seg X, .blk .fix [(rS a2 n2 c2)], .blk .fix [(sI t.p), (sI t.i), (sI t.l), (sI t.r)], .seg J, .blk .fix [(sI y.a), (sI y.b), (sI y.c), (sI y.d), (sI y.e), (sI y.f), (sB y.g)], .blk .fix [(sI 0), (sI 0), (sI 0), (sI 0)]]))
 (.req true (.req true (.req true (.req true (.req true (.claim (opA (Plain.env tblP (gE 0)) (.iadr 5 none (.const (.slice a2 n2 c2)) (kI r)) [] (denH [.seg G, .blk .fix [(sI 0), (sI 0), (sI 0), (sI 0)], .seg X, .blk .fix [(rS a2 n2 c2)], .blk .fix [(sI t.p), (sI t.i), (sI t.l), (sI t.r)], .seg J, .blk .fix [(sI y.a), (sI y.b), (sI y.c), (sI y.d), (sI y.e), (sI y.f), (sB y.g)], .blk .fix [(sI 0), (sI 0), (sI 0), (sI 0)]]) = some ((.pointer (some ⟨b2, o2, none⟩)), denH [.seg G, .blk .fix [(sI 0), (sI 0), (sI 0), (sI 0)], .seg X, .blk .fix [(rS a2 n2 c2)], .blk .fix [(sI t.p), (sI t.i), (sI t.l), (sI t.r)], .seg J, .blk .fix [(sI y.a), (sI y.b), (sI y.c), (sI y.d), (sI y.e), (sI y.f), (sB y.g)], .blk .fix [(sI 0), (sI 0), (sI 0), (sI 0)]]))
 (.claim (List.length X2 = List.length X) (.claim (opA (Plain.env tblP (gE 0)) (.store (.const (.pointer (some ⟨b2, o2, none⟩))) (.const (.agg ⟨[(.int .i64 (doneF x y).1.a), (.int .i64 (doneF x y).1.b), (.int .i64 (doneF x y).1.c), (.int .i64 (doneF x y).1.d), (.bool (doneF x y).1.e)]⟩)) 5) [] (denH [.seg G, .blk .fix [(sI 0), (sI 0), (sI 0), (sI 0)], .seg X, .blk .fix [(rS a2 n2 c2)], .blk .fix [(sI t.p), (sI t.i), (sI t.l), (sI t.r)], .seg J, .blk .fix [(sI y.a), (sI y.b), (sI y.c), (sI y.d), (sI y.e), (sI y.f), (sB y.g)], .blk .fix [(sI 0), (sI 0), (sI 0), (sI 0)]]) = some ((.tuple ⟨[]⟩), denH [.seg G, .blk .fix [(sI 0), (sI 0), (sI 0), (sI 0)], .seg X2, .blk .fix [(rS a2 n2 c2)], .blk .fix [(sI t.p), (sI t.i), (sI t.l), (sI t.r)], .seg J, .blk .fix [(sI y.a), (sI y.b), (sI y.c), (sI y.d), (sI y.e), (sI y.f), (sB y.g)], .blk .fix [(sI 0), (sI 0), (sI 0), (sI 0)]]))
 (.req true (.req (eqV (.slice a2 n2 c2) (.slice a2 n2 c2)) (.ret .normal (frS 89 [(0, (.raw (.pointer (some ⟨p, 0, none⟩)))), (4, (.ptr 1 0)), (5, (sI 0)), (6, (.ptr 3 0)), (7, (.ptr 4 0)), (18, (rS s n c)), (19, (sI (n : Int))), (20, (sI (IntKind.wrap .i64 (i + 1))))]) [.seg G, .blk .fix [(sI 0), (sI 0), (sI 0), (sI 0)], .seg X2, .blk .fix [(rS a2 n2 c2)], .blk .fix [(sI (IntKind.wrap .i64 (t.p + (doneF x y).2.p))), (sI (IntKind.wrap .i64 (t.i + (doneF x y).2.i))), (sI (IntKind.wrap .i64 (t.l + (doneF x y).2.l))), (sI (IntKind.wrap .i64 (t.r + (doneF x y).2.r)))], .seg J, .blk .fix [(sI y.a), (sI y.b), (sI y.c), (sI y.d), (sI y.e), (sI y.f), (sB y.g)], .blk .fix [(sI (doneF x y).2.p), (sI (doneF x y).2.i), (sI (doneF x y).2.l), (sI (doneF x y).2.r)]]))))))))))))))))))))))))))))))))
 (.ret (.exit 0) (frS 89 [(0, (.raw (.pointer (some ⟨p, 0, none⟩)))), (4, (.ptr 1 0)), (5, (sI 0)), (6, (.ptr 3 0)), (7, (.ptr 4 0)), (18, (rS s n c)), (19, (sI (n : Int))), (20, (sI i))]) [.seg G, .blk .fix [(sI 0), (sI 0), (sI 0), (sI 0)], .seg X, .blk .fix [(rS a2 n2 c2)], .blk .fix [(sI t.p), (sI t.i), (sI t.l), (sI t.r)], .seg J])) := by kernel_rfl
def hn46w (p : Nat) (s a2 : Option Addr) (n c n2 c2 : Nat) (tb q : Bool) (t : A4) (G X X2 J G2 : Heap) : Hs := (.use 26000013 (sB tb) ⟨[], []⟩ (.sym .nil (.use 26000017 (.ptr 3 0) ⟨[], [.seg X, .blk .fix [(rS a2 n2 c2)]]⟩ (.lp2 0 [0, 4, 5, 6, 7] q (frS 89 [(0, (.raw (.pointer (some ⟨p, 0, none⟩)))), (4, (.ptr 1 0)), (5, (sI 0)), (6, (.ptr 3 0)), (7, (.ptr 4 0))]) ⟨[(2, .seg X2), (4, .blk .fix [(sI t.p), (sI t.i), (sI t.l), (sI t.r)])], [.seg J]⟩ (frS 89 [(0, (.raw (.pointer (some ⟨p, 0, none⟩)))), (4, (.ptr 1 0)), (5, (sI 3)), (6, (.ptr 3 0)), (7, (.ptr 4 0))]) ⟨[(2, .seg X2), (4, .blk .fix [(sI t.p), (sI t.i), (sI t.l), (sI t.r)])], [.seg J]⟩ (.use 8009999 (.raw (.tuple ⟨[]⟩)) ⟨[(0, .seg G2)], []⟩ .nil) .nil))))
theorem tree46w (p : Nat) (s a2 : Option Addr) (n c n2 c2 : Nat) (tb q : Bool) (t : A4) (G X X2 J G2 : Heap) : fnS tblP (gE 0) (cE 0) 300 il46 (hn46w p s a2 n c n2 c2 tb q t G X X2 J G2) [(.raw (.pointer (some ⟨p, 0, none⟩))), (rS s n c)] [.seg G] =
(.claim (opA (Plain.env tblP (gE 0)) (.call 64 [(.const (.slice s n c))]) [] (denH [.seg G, .blk .fix [(sI 0), (sI 0), (sI 0), (sI 0)]]) = some ((.bool tb), denH [.seg G, .blk .fix [(sI 0), (sI 0), (sI 0), (sI 0)]]))
 (.br (!tb)
 (.ret .ret [(.raw (.tuple ⟨[(.agg ⟨[(.int .i64 0), (.int .i64 0), (.int .i64 0), (.int .i64 0)]⟩), (.int .i64 3)]⟩))] [.seg G, .blk .fix [(sI 0), (sI 0), (sI 0), (sI 0)]])
 (.claim (opA (Plain.env tblP (gE 0)) (.call 59 [(.const (.pointer (some ⟨p, 0, none⟩)))]) [] (denH [.seg G, .blk .fix [(sI 0), (sI 0), (sI 0), (sI 0)]]) = some ((denV (ofs [.seg G, .blk .fix [(sI 0), (sI 0), (sI 0), (sI 0)], .seg X, .blk .fix [(rS a2 n2 c2)]]) (.ptr 3 0)), denH [.seg G, .blk .fix [(sI 0), (sI 0), (sI 0), (sI 0)], .seg X, .blk .fix [(rS a2 n2 c2)]]))
 (.claim (Wp (Plain.env tblP (gE 0)) (inL [0, 4, 5, 6, 7]) (.block 0 (.loop body46_0)) (denF [.seg G, .blk .fix [(sI 0), (sI 0), (sI 0), (sI 0)], .seg X, .blk .fix [(rS a2 n2 c2)], .blk .fix [(sI 0), (sI 0), (sI 0), (sI 0)]] (frS 89 [(0, (.raw (.pointer (some ⟨p, 0, none⟩)))), (4, (.ptr 1 0)), (5, (sI 0)), (6, (.ptr 3 0)), (7, (.ptr 4 0)), (18, (rS s n c)), (19, (sI (n : Int))), (20, (sI 0))])) (denH [.seg G, .blk .fix [(sI 0), (sI 0), (sI 0), (sI 0)], .seg X, .blk .fix [(rS a2 n2 c2)], .blk .fix [(sI 0), (sI 0), (sI 0), (sI 0)]]) fun e_ s_ h_ => if q then e_ = .normal ∧ s_ = denF [.seg G, .blk .fix [(sI 0), (sI 0), (sI 0), (sI 0)], .seg X2, .blk .fix [(rS a2 n2 c2)], .blk .fix [(sI t.p), (sI t.i), (sI t.l), (sI t.r)], .seg J] (frS 89 [(0, (.raw (.pointer (some ⟨p, 0, none⟩)))), (4, (.ptr 1 0)), (5, (sI 0)), (6, (.ptr 3 0)), (7, (.ptr 4 0))]) ∧ h_ = denH [.seg G, .blk .fix [(sI 0), (sI 0), (sI 0), (sI 0)], .seg X2, .blk .fix [(rS a2 n2 c2)], .blk .fix [(sI t.p), (sI t.i), (sI t.l), (sI t.r)], .seg J] else e_ = .ret ∧ s_ = denF [.seg G, .blk .fix [(sI 0), (sI 0), (sI 0), (sI 0)], .seg X2, .blk .fix [(rS a2 n2 c2)], .blk .fix [(sI t.p), (sI t.i), (sI t.l), (sI t.r)], .seg J] (frS 89 [(0, (.raw (.pointer (some ⟨p, 0, none⟩)))), (4, (.ptr 1 0)), (5, (sI 3)), (6, (.ptr 3 0)), (7, (.ptr 4 0))]) ∧ h_ = denH [.seg G, .blk .fix [(sI 0), (sI 0), (sI 0), (sI 0)], .seg X2, .blk .fix [(rS a2 n2 c2)], .blk .fix [(sI t.p), (sI t.i), (sI t.l), (sI t.r)], .seg J])
 (.br q
 (.claim (List.length X2 = List.length X) (.claim (List.length G2 = List.length G) (.claim (opA (Plain.env tblP (gE 0)) (.store (.const (.pointer (some ⟨p, 0, none⟩))) (.const (.agg ⟨[(.slice a2 n2 c2)]⟩)) 1) [] (denH [.seg G, .blk .fix [(sI 0), (sI 0), (sI 0), (sI 0)], .seg X2, .blk .fix [(rS a2 n2 c2)], .blk .fix [(sI t.p), (sI t.i), (sI t.l), (sI t.r)], .seg J]) = some ((.tuple ⟨[]⟩), denH [.seg G2, .blk .fix [(sI 0), (sI 0), (sI 0), (sI 0)], .seg X2, .blk .fix [(rS a2 n2 c2)], .blk .fix [(sI t.p), (sI t.i), (sI t.l), (sI t.r)], .seg J]))
 (.ret .ret [(.raw (.tuple ⟨[(.agg ⟨[(.int .i64 t.p), (.int .i64 t.i), (.int .i64 t.l), (.int .i64 t.r)]⟩), (.int .i64 0)]⟩))] [.seg G2, .blk .fix [(sI t.p), (sI t.i), (sI t.l), (sI t.r)], .seg X2, .blk .fix [(rS a2 n2 c2)], .blk .fix [(sI t.p), (sI t.i), (sI t.l), (sI t.r)], .seg J]))))
 (.claim (List.length X2 = List.length X) (.ret .ret [(.raw (.tuple ⟨[(.agg ⟨[(.int .i64 0), (.int .i64 0), (.int .i64 0), (.int .i64 0)]⟩), (.int .i64 3)]⟩))] [.seg G, .blk .fix [(sI 0), (sI 0), (sI 0), (sI 0)], .seg X2, .blk .fix [(rS a2 n2 c2)], .blk .fix [(sI t.p), (sI t.i), (sI t.l), (sI t.r)], .seg J]))))))) := by kernel_rfl
abbrev IH (G X : Heap) (v : Value) (t : A4) (J : Heap) : SH := [.seg G, z4, .seg X, pB v, aB t, .seg J]
theorem den_IH (G X : Heap) (v : Value) (t : A4) (J : Heap) (R : Heap) (I2 : SH) (h : ∀ f, denL f I2 = R) : denH (IH G X v t J ++ I2) = (G ++ [some ⟨.fix, e4 a0⟩]) ++ (X ++ (some ⟨.fix, [v]⟩ :: some ⟨.fix, e4 t⟩ :: (J ++ R))) := by
 simp [denH, denL, It.den, den0, e4, a0, denL_app, h]
theorem rd_IH (G X : Heap) (v : Value) (t : A4) (J R : Heap) : rd ((G ++ [some ⟨.fix, e4 a0⟩]) ++ (X ++ (some ⟨.fix, [v]⟩ :: some ⟨.fix, e4 t⟩ :: (J ++ R)))) (denH [.seg G, z4, .seg X]).length = some ⟨.fix, [v]⟩ := by
 have : (G ++ [some ⟨.fix, e4 a0⟩]) ++ (X ++ (some ⟨.fix, [v]⟩ :: some ⟨.fix, e4 t⟩ :: (J ++ R))) = denH [.seg G, z4, .seg X] ++ some ⟨.fix, [v]⟩ :: (some ⟨.fix, e4 t⟩ :: (J ++ R)) := by simp [denH, denL, It.den, den0, e4, a0]
 rw [this]
 exact rd_mid1
theorem loop {G : Heap} {p : Nat} {s a2 : Option Addr} {c c2 : Nat} {ys : List R7} {l : List L5} {X : Heap} (hs : RowsW 7 G (.slice s ys.length c) (ys.map e7)) (hn : ys.length ≤ 1000000) (hm : l.length ≤ 1000000)
  (hl : LsS 5 (G ++ [some ⟨.fix, e4 a0⟩]) X (.slice a2 l.length c2) (l.map e5)) :
  Wp (Plain.env tblP (gE 0)) (inL [0, 4, 5, 6, 7]) (.block 0 (.loop body46_0)) (denF (IH G X (.slice a2 l.length c2) a0 []) (frS 89 [(0, (.raw (.pointer (some ⟨p, 0, none⟩)))), (4, (.ptr 1 0)), (5, (sI 0)), (6, (.ptr 3 0)), (7, (.ptr 4 0)), (18, (rS s ys.length c)), (19, (sI (ys.length : Int))), (20, (sI 0))])) (denH (IH G X (.slice a2 l.length c2) a0 [])) fun e t h => ∃ (X2 J : Heap) (tt : A4) (l2 : List L5), X2.length = X.length ∧ l2.length = l.length ∧ LsS 5 (G ++ [some ⟨.fix, e4 a0⟩]) X2 (.slice a2 l.length c2) (l2.map e5) ∧ h = denH (IH G X2 (.slice a2 l.length c2) tt J) ∧ match runF l a0 ys with
   | some q => e = .normal ∧ t = denF (IH G X2 (.slice a2 l.length c2) tt J) (frS 89 [(0, (.raw (.pointer (some ⟨p, 0, none⟩)))), (4, (.ptr 1 0)), (5, (sI 0)), (6, (.ptr 3 0)), (7, (.ptr 4 0))]) ∧ q = (l2, tt)
   | none => e = .ret ∧ t = denF (IH G X2 (.slice a2 l.length c2) tt J) (frS 89 [(0, (.raw (.pointer (some ⟨p, 0, none⟩)))), (4, (.ptr 1 0)), (5, (sI 3)), (6, (.ptr 3 0)), (7, (.ptr 4 0))]) := by
 refine Wp.bl (fun m t h => ∃ (i : Nat) (X2 J : Heap) (tt : A4) (l2 : List L5), i + m = ys.length ∧ X2.length = X.length ∧ l2.length = l.length ∧ LsS 5 (G ++ [some ⟨.fix, e4 a0⟩]) X2 (.slice a2 l.length c2) (l2.map e5) ∧ t = denF (IH G X2 (.slice a2 l.length c2) tt J) (frS 89 [(0, (.raw (.pointer (some ⟨p, 0, none⟩)))), (4, (.ptr 1 0)), (5, (sI 0)), (6, (.ptr 3 0)), (7, (.ptr 4 0)), (18, (rS s ys.length c)), (19, (sI (ys.length : Int))), (20, (sI i))]) ∧ h = denH (IH G X2 (.slice a2 l.length c2) tt J) ∧ runF l a0 ys = runF l2 tt (ys.drop i)) ?_ ys.length _ _
  ⟨0, X, [], a0, l, by omega, rfl, rfl, hl, by show denF _ _ = denF _ _; kernel_rfl, rfl, rfl⟩
 rintro m t h ⟨i, X2, J, tt, l2, hi, hx2, hl2, hls, rfl, rfl, hr⟩
 by_cases hlt : i < ys.length
 ·obtain ⟨y, hy⟩ := getE hlt
  obtain ⟨b1, o1, r1⟩ := hs.rowM hy
  have hd : ys.drop i = y :: ys.drop (i + 1) := by
   rw [List.drop_eq_getElem_cons hlt]
   rw [List.getElem?_eq_getElem hlt] at hy
   cases hy; rfl
  rw [hd] at hr
  have eD := den_IH G X2 (.slice a2 l.length c2) tt J [some ⟨.fix, e7 y⟩] [lB y] (fun f => rfl)
  have hrows := hls.rows (by decide) (some ⟨.fix, [.slice a2 l.length c2]⟩ :: some ⟨.fix, e4 tt⟩ :: (J ++ [some ⟨.fix, e7 y⟩]))
  have hc84 : ∀ (r : Int), r = atF y.a l2 → opA (Plain.env tblP (gE 0)) (.call 84 [(.const (denV (ofs (IH G X2 (.slice a2 l.length c2) tt J ++ [lB y])) (.ptr 3 0))), (kI y.a)]) [] (denH (IH G X2 (.slice a2 l.length c2) tt J ++ [lB y])) = some ((.int .i64 r), denH (IH G X2 (.slice a2 l.length c2) tt J ++ [lB y])) := by
   rintro r rfl
   have e1 : denV (ofs (IH G X2 (.slice a2 l.length c2) tt J ++ [lB y])) (.ptr 3 0) = .pointer (some ⟨(denH [.seg G, z4, .seg X2]).length, 0, none⟩) := ptr_at (I1 := [.seg G, z4, .seg X2]) (I2 := [aB tt, .seg J, lB y]) (pB (.slice a2 l.length c2))
   rw [e1, eD]
   exact opA_call (args := [_, _]) rfl (T.call y.a (rd_IH G X2 _ tt J _) hrows (by omega))
  have err : runF l a0 ys = none → ∃ (X3 J3 : Heap) (t3 : A4) (l3 : List L5), X3.length = X.length ∧ l3.length = l.length ∧ LsS 5 (G ++ [some ⟨.fix, e4 a0⟩]) X3 (.slice a2 l.length c2) (l3.map e5) ∧ denH (IH G X2 (.slice a2 l.length c2) tt J ++ [lB y]) = denH (IH G X3 (.slice a2 l.length c2) t3 J3) ∧ match runF l a0 ys with
   | some q => Ex.ret = .normal ∧ denF (IH G X2 (.slice a2 l.length c2) tt J ++ [lB y]) (frS 89 [(0, (.raw (.pointer (some ⟨p, 0, none⟩)))), (4, (.ptr 1 0)), (5, (sI 3)), (6, (.ptr 3 0)), (7, (.ptr 4 0))]) = denF (IH G X3 (.slice a2 l.length c2) t3 J3) (frS 89 [(0, (.raw (.pointer (some ⟨p, 0, none⟩)))), (4, (.ptr 1 0)), (5, (sI 0)), (6, (.ptr 3 0)), (7, (.ptr 4 0))]) ∧ q = (l3, t3)
   | none => Ex.ret = .ret ∧ denF (IH G X2 (.slice a2 l.length c2) tt J ++ [lB y]) (frS 89 [(0, (.raw (.pointer (some ⟨p, 0, none⟩)))), (4, (.ptr 1 0)), (5, (sI 3)), (6, (.ptr 3 0)), (7, (.ptr 4 0))]) = denF (IH G X3 (.slice a2 l.length c2) t3 J3) (frS 89 [(0, (.raw (.pointer (some ⟨p, 0, none⟩)))), (4, (.ptr 1 0)), (5, (sI 3)), (6, (.ptr 3 0)), (7, (.ptr 4 0))]) := by
   intro hno
   refine ⟨X2, J ++ [some ⟨.fix, e7 y⟩], tt, l2, hx2, hl2, hls, by simp [denH, denL, It.den, den0, e7], ?_⟩
   rw [hno]
   exact ⟨rfl, by show denF _ _ = denF _ _; kernel_rfl⟩
  cases ha : atI y.a l2 with
  | none =>
   have hno : runF l a0 ys = none := by rw [hr]; simp only [runF, stepF, ha]
   have hF : atF y.a l2 = -1 := by unfold atF; rw [ha]
   refine Wp.tree (cE_ok 0) (tree46n p s a2 ys.length c l.length c2 i (-1) ⟨0, 0, 0, 0, false⟩ y tt b1 o1 0 0 G X2 X2 J) ⟨rfl, rfl⟩ ⟨fun _ => ⟨r1.ptr _ _, r1.all _, hc84 _ hF.symm, rfl, rfl, end_ret (err hno)⟩, fun q => by simp at q; omega⟩
  | some k =>
   obtain ⟨x, hx, _⟩ := atI_lt ha
   have hF : atF y.a l2 = k := by unfold atF; rw [ha]
   obtain ⟨b2, o2, r2⟩ := hrows.rowM hx
   have hneg : (!(decide ((k : Int) < 0))) = true := by simp
   by_cases hmay : mayF x y = true
   ·have hk : (l2.map e5)[k]? = some (e5 x) := by rw [List.getElem?_map, hx]; rfl
    have hst : stepF l2 tt y = some (l2.set k (doneF x y).1, addA tt (doneF x y).2) := by
     unfold stepF; rw [ha]; simp only [hx]; rw [if_pos hmay]
    obtain ⟨b3, o3, X3, g1, g2, g3, g4⟩ := LsS.set (R := some ⟨.fix, [.slice a2 l.length c2]⟩ :: some ⟨.fix, e4 tt⟩ :: (J ++ [some ⟨.fix, e7 y⟩, some ⟨.fix, e4 a0⟩])) hls (f := 0) (vs := e5 (doneF x y).1) hk (by simp [e5])
    have hb : b2 = b3 ∧ o2 = o3 := by
     have := (r2.ptr (Plain.env tblP (gE 0)) []).symm.trans (g2 _ [])
     simp only [Option.some.injEq, Prod.mk.injEq, Value.pointer.injEq, Addr.mk.injEq, and_true] at this
     exact this
    obtain ⟨rfl, rfl⟩ := hb
    have eD2 := den_IH G X2 (.slice a2 l.length c2) tt J [some ⟨.fix, e7 y⟩, some ⟨.fix, e4 a0⟩] [lB y, z4] (fun f => rfl)
    have eD3 := den_IH G X3 (.slice a2 l.length c2) tt J [some ⟨.fix, e7 y⟩, some ⟨.fix, e4 a0⟩] [lB y, z4] (fun f => rfl)
    have hset : setL (e5 x) 0 (e5 (doneF x y).1) = e5 (doneF x y).1 := rfl
    rw [hset] at g4
    refine Wp.tree (cE_ok 0) (tree46k p s a2 ys.length c l.length c2 i k x y tt b1 o1 b2 o2 G X2 X3 J) ⟨rfl, rfl⟩ ⟨fun _ => ⟨r1.ptr _ _, r1.all _, hc84 _ hF.symm, rfl, hneg, r2.ptr _ _, ?_, rfl, by rw [hmay]; rfl, rfl, rfl, rfl, rfl, rfl, rfl, rfl, rfl, rfl, rfl, r2.ptr _ _, ?_, rfl, rfl, rfl, rfl, rfl, r2.ptr _ _, g1, ?_, rfl, eqV_slc _ _ _, end_next (m - 1) (by omega) ⟨i + 1, X3, J ++ [some ⟨.fix, e7 y⟩, some ⟨.fix, e4 (doneF x y).2⟩], addA tt (doneF x y).2, l2.set k (doneF x y).1, by omega, by omega, by simpa using hl2, by rw [List.map_set]; exact g4, ?_, ?_, ?_⟩⟩, fun q => by simp at q; omega⟩
    ·show opA _ _ _ (denH (IH G X2 (.slice a2 l.length c2) tt J ++ [lB y])) = some (.agg ⟨e5 x⟩, denH (IH G X2 (.slice a2 l.length c2) tt J ++ [lB y]))
     rw [eD]; exact r2.all _
    ·show opA _ _ _ (denH (IH G X2 (.slice a2 l.length c2) tt J ++ [lB y, z4])) = some (.agg ⟨e5 x⟩, denH (IH G X2 (.slice a2 l.length c2) tt J ++ [lB y, z4]))
     rw [eD2]
     have h5 := hls.rows (by decide) (some ⟨.fix, [.slice a2 l.length c2]⟩ :: some ⟨.fix, e4 tt⟩ :: (J ++ [some ⟨.fix, e7 y⟩, some ⟨.fix, e4 a0⟩]))
     obtain ⟨b4, o4, r4⟩ := h5.rowM hx
     have hb : b2 = b4 ∧ o2 = o4 := by
      have := (r2.ptr (Plain.env tblP (gE 0)) []).symm.trans (r4.ptr _ [])
      simp only [Option.some.injEq, Prod.mk.injEq, Value.pointer.injEq, Addr.mk.injEq, and_true] at this
      exact this
     obtain ⟨rfl, rfl⟩ := hb
     exact r4.all _
    ·show opA _ _ _ (denH (IH G X2 (.slice a2 l.length c2) tt J ++ [lB y, z4])) = some (_, denH (IH G X3 (.slice a2 l.length c2) tt J ++ [lB y, z4]))
     rw [eD2, eD3]
     exact g3 _ (.agg ⟨e5 (doneF x y).1⟩) 5 rfl rfl rfl
    ·rw [wrap64 (x := (i : Int) + 1) (by omega) (by omega)]; show denF _ _ = denF _ _; kernel_rfl
    ·simp [denH, denL, It.den, den0, e7, e4, addA]
    ·rw [hr]
     simp only [runF, hst]
   ·have hno : runF l a0 ys = none := by
     rw [hr]; simp only [runF, stepF, ha, hx]; rw [if_neg hmay]
    have hm0 : mayF x y = false := Bool.eq_false_iff.2 hmay
    refine Wp.tree (cE_ok 0) (tree46m p s a2 ys.length c l.length c2 i k x y tt b1 o1 b2 o2 G X2 X2 J) ⟨rfl, rfl⟩ ⟨fun _ => ⟨r1.ptr _ _, r1.all _, hc84 _ hF.symm, rfl, hneg, r2.ptr _ _, ?_, rfl, by rw [hm0]; rfl, end_ret (err hno)⟩, fun q => by simp at q; omega⟩
    show opA _ _ _ (denH (IH G X2 (.slice a2 l.length c2) tt J ++ [lB y])) = some (.agg ⟨e5 x⟩, denH (IH G X2 (.slice a2 l.length c2) tt J ++ [lB y]))
    rw [eD]; exact r2.all _
 ·have hil : i = ys.length := by omega
  have hok : runF l a0 ys = some (l2, tt) := by rw [hr, hil, List.drop_length]; rfl
  refine Wp.tree (cE_ok 0) (tree46n p s a2 ys.length c l.length c2 i 0 ⟨0, 0, 0, 0, false⟩ ⟨0, 0, 0, 0, 0, 0, false⟩ tt 0 0 0 0 G X2 X2 J) ⟨rfl, rfl⟩ ⟨fun q => by simp at q; omega, fun _ => end_exit ⟨X2, J, tt, l2, hx2, hl2, hls, rfl, ?_⟩⟩
  rw [hok]
  exact ⟨rfl, by show denF _ _ = denF _ _; kernel_rfl, rfl⟩
theorem sum46 : Summ Try.prog 46 (runE (Plain.env tblP (gE 0)) il46) := Summ.runE mixed (gE_ok 0) (gE_q 0) st46
def tupA (q : Option (List L5 × A4)) : Value := match q with
 | some p => .tuple ⟨[.agg ⟨e4 p.2⟩, .int .i64 0]⟩
 | none => .tuple ⟨[.agg ⟨e4 a0⟩, .int .i64 3]⟩
theorem use46 {A B : Heap} {s tv : Value} {l : List L5} {ys : List R7} (hs : RowsW 5 (A ++ some ⟨.fix, [s]⟩ :: B) s (l.map e5)) (ht : RowsW 7 (A ++ some ⟨.fix, [s]⟩ :: B) tv (ys.map e7)) (hm : l.length ≤ 1000000) (hn : ys.length ≤ 140737488355328) :
  ∃ (X : Heap), match applyF l ys with
   | some q => ∃ a c, q.1.length = l.length ∧ LsS 5 (A ++ some ⟨.fix, [.slice a l.length c]⟩ :: B) X (.slice a l.length c) (q.1.map e5) ∧ runE (Plain.env tblP (gE 0)) il46 [.pointer (some ⟨A.length, 0, none⟩), tv] (A ++ some ⟨.fix, [s]⟩ :: B) = some (tupA (some q), A ++ some ⟨.fix, [.slice a l.length c]⟩ :: (B ++ X))
   | none => runE (Plain.env tblP (gE 0)) il46 [.pointer (some ⟨A.length, 0, none⟩), tv] (A ++ some ⟨.fix, [s]⟩ :: B) = some (tupA none, A ++ some ⟨.fix, [s]⟩ :: (B ++ X)) := by
 obtain ⟨ta, tc, rfl⟩ := ht.slcM
 obtain ⟨G, hG⟩ : ∃ G, G = A ++ some ⟨.fix, [s]⟩ :: B := ⟨_, rfl⟩
 have hp : rd G A.length = some ⟨.fix, [s]⟩ := by rw [hG]; exact rd_mid1
 rw [← hG] at hs ht ⊢
 have e0 : denH [.seg G, z4] = G ++ [some ⟨.fix, e4 a0⟩] := by simp [denH, denL, It.den, den0, e4, a0]
 have hc64 : opA (Plain.env tblP (gE 0)) (.call 64 [(.const (.slice ta ys.length tc))]) [] (denH [.seg G, z4]) = some ((.bool (TP.tapeB ys)), denH [.seg G, z4]) := by
  rw [e0]; exact opA_call (args := [_]) rfl (TP.R64.call (ht.app _) hn)
 have fin : ∀ (w : Value) (h' Z : Heap) (r : runE (Plain.env tblP (gE 0)) il46 (denF [.seg G] [.raw (.pointer (some ⟨A.length, 0, none⟩)), .raw (.slice ta ys.length tc)]) (denH [.seg G]) = some (w, h')), runE (Plain.env tblP (gE 0)) il46 [.pointer (some ⟨A.length, 0, none⟩), .slice ta ys.length tc] G = some (w, h') := by
  intro w h' Z r
  simpa [denF, denH, denL, It.den, denV, denA, den0] using r
 by_cases htb : TP.tapeB ys = true
 ·have hy : ys.length ≤ 64 := by
   unfold TP.tapeB at htb
   split at htb
   ·cases htb
   ·omega
  have hap : applyF l ys = runF l a0 ys := by unfold applyF; rw [if_pos htb]
  obtain ⟨a2, c2, X, hl, r59, _⟩ := Y.run59 (H := G ++ [some ⟨.fix, e4 a0⟩]) (rd_more hp) (hs.app _) hm
  have hc59 : opA (Plain.env tblP (gE 0)) (.call 59 [(.const (.pointer (some ⟨A.length, 0, none⟩)))]) [] (denH [.seg G, z4]) = some ((denV (ofs [.seg G, z4, .seg X, pB (.slice a2 l.length c2)]) (.ptr 3 0)), denH [.seg G, z4, .seg X, pB (.slice a2 l.length c2)]) := by
   have e1 : denV (ofs [.seg G, z4, .seg X, pB (.slice a2 l.length c2)]) (.ptr 3 0) = .pointer (some ⟨(denH [.seg G, z4, .seg X]).length, 0, none⟩) := ptr_at (I1 := [.seg G, z4, .seg X]) (I2 := []) (pB (.slice a2 l.length c2))
   have e2 : denH [.seg G, z4, .seg X] = (G ++ [some ⟨.fix, e4 a0⟩]) ++ X := by simp [denH, denL, It.den, den0, e4, a0]
   have e3 : denH [.seg G, z4, .seg X, pB (.slice a2 l.length c2)] = (G ++ [some ⟨.fix, e4 a0⟩]) ++ (X ++ [some ⟨.fix, [.slice a2 l.length c2]⟩]) := by simp [denH, denL, It.den, den0, e4, a0]
   rw [e1, e2, e3, e0]
   exact opA_call (args := [_]) rfl r59
  obtain ⟨e, t1, h1, ⟨X2, J, tt, l2, hx2, hl2, hls, rfl, hmat⟩, w⟩ := (loop (p := A.length) ht (by omega) hm hl).exact
  have w' : ∀ q : Bool, q = (runF l a0 ys).isSome → Wp (Plain.env tblP (gE 0)) (inL [0, 4, 5, 6, 7]) (.block 0 (.loop body46_0)) (denF [.seg G, z4, .seg X, pB (.slice a2 l.length c2), z4] (frS 89 [(0, (.raw (.pointer (some ⟨A.length, 0, none⟩)))), (4, (.ptr 1 0)), (5, (sI 0)), (6, (.ptr 3 0)), (7, (.ptr 4 0)), (18, (rS ta ys.length tc)), (19, (sI (ys.length : Int))), (20, (sI 0))])) (denH [.seg G, z4, .seg X, pB (.slice a2 l.length c2), z4]) fun e_ s_ h_ => if q then e_ = .normal ∧ s_ = denF (IH G X2 (.slice a2 l.length c2) tt J) (frS 89 [(0, (.raw (.pointer (some ⟨A.length, 0, none⟩)))), (4, (.ptr 1 0)), (5, (sI 0)), (6, (.ptr 3 0)), (7, (.ptr 4 0))]) ∧ h_ = denH (IH G X2 (.slice a2 l.length c2) tt J) else e_ = .ret ∧ s_ = denF (IH G X2 (.slice a2 l.length c2) tt J) (frS 89 [(0, (.raw (.pointer (some ⟨A.length, 0, none⟩)))), (4, (.ptr 1 0)), (5, (sI 3)), (6, (.ptr 3 0)), (7, (.ptr 4 0))]) ∧ h_ = denH (IH G X2 (.slice a2 l.length c2) tt J) := by
   rintro q rfl
   have ew : denH [.seg G, z4, .seg X, pB (.slice a2 l.length c2), z4] = denH (IH G X (.slice a2 l.length c2) a0 []) := by simp [denH, denL, It.den, den0, a0]
   have ef : denF [.seg G, z4, .seg X, pB (.slice a2 l.length c2), z4] (frS 89 [(0, (.raw (.pointer (some ⟨A.length, 0, none⟩)))), (4, (.ptr 1 0)), (5, (sI 0)), (6, (.ptr 3 0)), (7, (.ptr 4 0)), (18, (rS ta ys.length tc)), (19, (sI (ys.length : Int))), (20, (sI 0))]) = denF (IH G X (.slice a2 l.length c2) a0 []) (frS 89 [(0, (.raw (.pointer (some ⟨A.length, 0, none⟩)))), (4, (.ptr 1 0)), (5, (sI 0)), (6, (.ptr 3 0)), (7, (.ptr 4 0)), (18, (rS ta ys.length tc)), (19, (sI (ys.length : Int))), (20, (sI 0))]) := by show denF _ _ = denF _ _; kernel_rfl
   rw [ew, ef]
   refine w.mono fun e1 s1 h1 ⟨q1, q2, q3⟩ => ?_
   subst q1
   cases hrun : runF l a0 ys with
   | some q => rw [hrun] at hmat; exact ⟨hmat.1, by rw [q2, hmat.2.1], q3⟩
   | none => rw [hrun] at hmat; exact ⟨hmat.1, by rw [q2, hmat.2], q3⟩
  rw [hap]
  cases hrun : runF l a0 ys with
  | none =>
   obtain ⟨v, h', r, rfl, rfl⟩ := fnS_run (Q := fun v h' => v = tupA none ∧ h' = G ++ (some ⟨.fix, e4 a0⟩ :: (X2 ++ (some ⟨.fix, [.slice a2 l.length c2]⟩ :: some ⟨.fix, e4 tt⟩ :: J)))) (cE_ok 0) (tree46w A.length ta a2 ys.length tc l.length c2 (TP.tapeB ys) false tt G X X2 J []) ⟨rfl, rfl⟩ ⟨hc64, fun q => (by rw [htb] at q; cases q), fun _ => ⟨hc59, w' false (by rw [hrun]; rfl), fun q => (by cases q), fun _ => ⟨hx2, rfl, by simp [denH, denL, It.den, den0, e4, a0]⟩⟩⟩
   refine ⟨some ⟨.fix, e4 a0⟩ :: (X2 ++ (some ⟨.fix, [.slice a2 l.length c2]⟩ :: some ⟨.fix, e4 tt⟩ :: J)), (fin _ _ [] r).trans ?_⟩
   rw [hG]; simp
  | some q =>
   rw [hrun] at hmat
   obtain ⟨_, _, rfl⟩ := hmat
   obtain ⟨G2, hG2⟩ : ∃ G2, G2 = A ++ some ⟨.fix, [.slice a2 l.length c2]⟩ :: B := ⟨_, rfl⟩
   have hlen : G2.length = G.length := by rw [hG, hG2]; simp
   have hset : G.set A.length (some ⟨.fix, [.slice a2 l.length c2]⟩) = G2 := by rw [hG, hG2]; simp
   obtain ⟨v, h', r, rfl, rfl⟩ := fnS_run (Q := fun v h' => v = tupA (some (l2, tt)) ∧ h' = G2 ++ (some ⟨.fix, e4 tt⟩ :: (X2 ++ (some ⟨.fix, [.slice a2 l.length c2]⟩ :: some ⟨.fix, e4 tt⟩ :: J)))) (cE_ok 0) (tree46w A.length ta a2 ys.length tc l.length c2 (TP.tapeB ys) true tt G X X2 J G2) ⟨rfl, rfl⟩ ⟨hc64, fun q => (by rw [htb] at q; cases q), fun _ => ⟨hc59, w' true (by rw [hrun]; rfl), fun _ => ⟨hx2, hlen, by
     have eD : ∀ G, denH [.seg G, z4, .seg X2, pB (.slice a2 l.length c2), aB tt, .seg J] = G ++ (some ⟨.fix, e4 a0⟩ :: (X2 ++ (some ⟨.fix, [.slice a2 l.length c2]⟩ :: some ⟨.fix, e4 tt⟩ :: J))) := fun G => by simp [denH, denL, It.den, den0, e4, a0]
     rw [eD, eD]
     refine st_ (rd_more hp) (fun q => by cases q) rfl rfl (by simp) (l := [.slice a2 l.length c2]) rfl ?_
     rw [List.set_append_left _ _ (by rw [hG]; simp), hset], rfl, by simp [denH, denL, It.den, den0, e4]⟩, fun q => (by cases q)⟩⟩
   refine ⟨some ⟨.fix, e4 tt⟩ :: (X2 ++ (some ⟨.fix, [.slice a2 l.length c2]⟩ :: some ⟨.fix, e4 tt⟩ :: J)), a2, c2, hl2, ?_, ?_⟩
   ·have h1 : LsS 5 (G2 ++ [some ⟨.fix, e4 a0⟩]) X2 (.slice a2 l.length c2) (l2.map e5) := hls.base (by simp [hlen])
    have h2 := (h1.base (H' := G2 ++ [some ⟨.fix, e4 tt⟩]) (by simp)).ahead.more (some ⟨.fix, [.slice a2 l.length c2]⟩ :: some ⟨.fix, e4 tt⟩ :: J)
    rw [← hG2]
    simpa using h2
   ·refine (fin _ _ [] r).trans ?_
    rw [hG2]; simp
 ·have hap : applyF l ys = none := by unfold applyF; rw [if_neg htb]
  have htf : TP.tapeB ys = false := Bool.eq_false_iff.2 htb
  rw [hap]
  obtain ⟨v, h', r, rfl, rfl⟩ := fnS_run (Q := fun v h' => v = tupA none ∧ h' = G ++ [some ⟨.fix, e4 a0⟩]) (cE_ok 0) (tree46w A.length ta ta ys.length tc 0 0 (TP.tapeB ys) false a0 G [] [] [] []) ⟨rfl, rfl⟩ ⟨hc64, fun _ => ⟨rfl, by simp [denH, denL, It.den, den0, e4, a0]⟩, fun q => (by rw [htf] at q; cases q)⟩
  refine ⟨[some ⟨.fix, e4 a0⟩], (fin _ _ [] r).trans ?_⟩
  rw [hG]; simp
end P
end PO
end Go.Proofs.Ytgdojnamjkhknaa
