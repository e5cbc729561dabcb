/-
  The law PoolPlays: is a pool what the document says?
-/
import Derived.Test.YtgdojnamjkhknaaQbPq5
import Derived.Test.YtgdojnamjkhknaaQbPo9
namespace Go.Proofs.Ytgdojnamjkhknaa
open Go.Am
set_option linter.all false
set_option maxRecDepth 100000
namespace PR
open PO (L5 A4 e5 e4 newL sumF wr e5_1)
namespace S
noncomputable def g : Env := fun f => match f with
 | 47 => PO.B.g47
 | 48 => PO.B.g48
 | 58 => runE (Plain.env [] (PO.Y.gE 1)) PO.Y.il58
 | 88 => smry A.pre A.res
 | _ => fun _ _ => none
theorem g_ok : EnvOk Try.prog g := fun f => by
 unfold g
 split
 ·exact PO.B.summ47
 ·exact PO.B.summ48
 ·exact PO.Y.sum58
 ·exact A.summ
 ·exact fun args h v h' e => by cases e
theorem g_q : QuietEnv qt g := fun f args h v h' hf e => by cases hf
noncomputable abbrev gE (k : Nat) : Env := inE [] [] k g
noncomputable abbrev cE (k : Nat) : CallS := callS [] [] g 100 k
theorem gE_q (k : Nat) : QuietEnv qt (Plain.env [] (gE k)) := Plain.quiet (inE_quiet g_q (fun f F h => by cases h) k)
theorem gE_ok (k : Nat) : EnvOk Try.prog (Plain.env [] (gE k)) := Plain.ok .nil (inE_ok (qt := qt) mixed .nil .nil (fun f F h => by cases h) g_ok g_q k)
theorem cE_ok (k : Nat) : CallOk (Plain.env [] (gE k)) (cE k) := callS_ok k
def il56 : FnIL := ⟨56, [.tmp 4], .seq (.reg [ oT 4 (.mov (.const (.bool false)))]) (.seq (.reg [ oT 9 (.mov (.tmp 0)), oT 10 (.call 58 [(.tmp 9)]), oT 5 (.mov (.tmp 10))]) (.seq (.seq (.reg [ oT 11 (.mov (.tmp 5)), oT 12 (.len (.tmp 11)), oT 13 (.mov (.tmp 1)), oT 14 (.len (.tmp 13)), oT 15 (.bin .neq (.tmp 12) (.tmp 14))]) (.ite (.tmp 15) (.seq (.reg [ oT 4 (.mov (.const (.bool false)))]) (.ret)) (.skip))) (.seq (.reg [ oT 6 (.mov (kI 0))]) (.seq (.seq (.reg [ oT 16 (.mov (.tmp 1)), oT 17 (.len (.tmp 16)), oT 18 (.mov (kI 0))]) (.block 0 (.loop (.seq (.reg [ oT 19 (.bin .lss (.tmp 18) (.tmp 17))]) (.seq (.ite (.tmp 19) (.skip) (.exit 0)) (.seq (.block 1 (.seq (.reg [ oT 20 (.mov (.tmp 18)), oT 21 (.iadr 5 none (.tmp 16) (.tmp 18)), oT 22 (.load (.tmp 21) (some 5)), oT 8 (.alloc [(.int .i64 0), (.int .i64 0), (.int .i64 0), (.int .i64 0), (.bool false)]), oT 7 (.mov (.tmp 20)), oN (.store (.tmp 8) (.tmp 22) 5)]) (.seq (.seq (.dreg [ oT 23 (.mov (.tmp 5)), oT 24 (.mov (.tmp 7)), oT 25 (.iadr 5 none (.tmp 23) (.tmp 24)), oT 26 (.load (.tmp 25) (some 5)), oT 27 (.fadr 0 (.tmp 8)), oT 28 (.load (.tmp 27) none), oT 29 (.fadr 1 (.tmp 8)), oT 30 (.load (.tmp 29) none), oT 31 (.build [(.int .i64 0), (.int .i64 0)] [(0, 1, (.tmp 28)), (1, 1, (.tmp 30))]), oT 32 (.fadr 2 (.tmp 8)), oT 33 (.load (.tmp 32) none), oT 34 (.fadr 3 (.tmp 8)), oT 35 (.load (.tmp 34) none), oT 36 (.fadr 4 (.tmp 8)), oT 37 (.load (.tmp 36) none), oT 38 (.build [(.int .i64 0), (.int .i64 0), (.int .i64 0), (.int .i64 0), (.bool false)] [(0, 2, (.tmp 31)), (2, 1, (.tmp 33)), (3, 1, (.tmp 35)), (4, 1, (.tmp 37))]), oT 39 (.eqv true (.cells [false, false, false, false, true]) (.tmp 26) (.tmp 38))] []) (.ite (.tmp 39) (.seq (.reg [ oT 4 (.mov (.const (.bool false)))]) (.ret)) (.skip))) (.reg [ oT 40 (.mov (.tmp 6)), oT 41 (.fadr 2 (.tmp 8)), oT 42 (.load (.tmp 41) none), oT 43 (.bin .add (.tmp 40) (.tmp 42)), oT 6 (.mov (.tmp 43))])))) (.reg [ oT 44 (.bin .add (.tmp 18) (kI 1)), oT 18 (.mov (.tmp 44))]))))))) (.seq (.reg [ oT 45 (.mov (.tmp 0)), oT 46 (.call 47 [(.tmp 45)]), oT 47 (.mov (.tmp 1)), oT 48 (.call 88 [(.tmp 47)]), oT 49 (.bin .eql (.tmp 46) (.tmp 48)), oT 50 (.mov (.tmp 49)), ⟨(some 51), (some (50, true)), .mov (.tmp 0)⟩, ⟨(some 52), (some (50, true)), .call 48 [(.tmp 51)]⟩, ⟨(some 53), (some (50, true)), .mov (.tmp 6)⟩, ⟨(some 54), (some (50, true)), .bin .eql (.tmp 52) (.tmp 53)⟩, oT 55 (.pick (.tmp 50) (.tmp 54) (.const (.bool false))), oT 4 (.mov (.tmp 55))]) (.ret))))))⟩
theorem st56 : stF Try.prog qt 56 = some il56 := by kernel_rfl
def body56_0 : IL := .seq (.reg [ oT 19 (.bin .lss (.tmp 18) (.tmp 17))]) (.seq (.ite (.tmp 19) (.skip) (.exit 0)) (.seq (.block 1 (.seq (.reg [ oT 20 (.mov (.tmp 18)), oT 21 (.iadr 5 none (.tmp 16) (.tmp 18)), oT 22 (.load (.tmp 21) (some 5)), oT 8 (.alloc [(.int .i64 0), (.int .i64 0), (.int .i64 0), (.int .i64 0), (.bool false)]), oT 7 (.mov (.tmp 20)), oN (.store (.tmp 8) (.tmp 22) 5)]) (.seq (.seq (.dreg [ oT 23 (.mov (.tmp 5)), oT 24 (.mov (.tmp 7)), oT 25 (.iadr 5 none (.tmp 23) (.tmp 24)), oT 26 (.load (.tmp 25) (some 5)), oT 27 (.fadr 0 (.tmp 8)), oT 28 (.load (.tmp 27) none), oT 29 (.fadr 1 (.tmp 8)), oT 30 (.load (.tmp 29) none), oT 31 (.build [(.int .i64 0), (.int .i64 0)] [(0, 1, (.tmp 28)), (1, 1, (.tmp 30))]), oT 32 (.fadr 2 (.tmp 8)), oT 33 (.load (.tmp 32) none), oT 34 (.fadr 3 (.tmp 8)), oT 35 (.load (.tmp 34) none), oT 36 (.fadr 4 (.tmp 8)), oT 37 (.load (.tmp 36) none), oT 38 (.build [(.int .i64 0), (.int .i64 0), (.int .i64 0), (.int .i64 0), (.bool false)] [(0, 2, (.tmp 31)), (2, 1, (.tmp 33)), (3, 1, (.tmp 35)), (4, 1, (.tmp 37))]), oT 39 (.eqv true (.cells [false, false, false, false, true]) (.tmp 26) (.tmp 38))] []) (.ite (.tmp 39) (.seq (.reg [ oT 4 (.mov (.const (.bool false)))]) (.ret)) (.skip))) (.reg [ oT 40 (.mov (.tmp 6)), oT 41 (.fadr 2 (.tmp 8)), oT 42 (.load (.tmp 41) none), oT 43 (.bin .add (.tmp 40) (.tmp 42)), oT 6 (.mov (.tmp 43))])))) (.reg [ oT 44 (.bin .add (.tmp 18) (kI 1)), oT 18 (.mov (.tmp 44))])))
def hn56t (p : Nat) (la ea : Option Addr) (n lc ec : Nat) (j r : Int) (x : L5) (b1 o1 b2 o2 : Nat) (G X J : Heap) : Hs := (.sym (.pur 22000021 (.pointer (some ⟨b1, o1, none⟩)) (.use 7000022 (.raw (.agg ⟨[(.int .i64 x.a), (.int .i64 x.b), (.int .i64 x.c), (.int .i64 x.d), (.bool x.e)]⟩)) ⟨[], []⟩ (.pur 22000025 (.pointer (some ⟨b2, o2, none⟩)) (.use 7000026 (.raw (.agg ⟨[(.int .i64 x.a), (.int .i64 x.b), (.int .i64 x.c), (.int .i64 x.d), (.bool x.e)]⟩)) ⟨[], []⟩ (.pur 11000039 (.bool false) (.con .nil)))))) .nil)
theorem tree56t (p : Nat) (la ea : Option Addr) (n lc ec : Nat) (j r : Int) (x : L5) (b1 o1 b2 o2 : Nat) (G X J : Heap) : pieceS [] (gE 0) (cE 0) 300 (fun i => exL i body56_0 || inL [0, 1, 4, 6] i) body56_0 (hn56t p la ea n lc ec j r x b1 o1 b2 o2 G X J) (frS 56 [(0, (.raw (.pointer (some ⟨p, 0, none⟩)))), (1, (rS la n lc)), (4, (sB false)), (5, (rS ea n ec)), (6, (sI r)), (16, (rS la n lc)), (17, (sI (n : Int))), (18, (sI j))]) [.seg G, .seg X, .seg J] =
(.br (decide (j < (n : Int)))
 (.claim (opA (Plain.env [] (gE 0)) (.iadr 5 none (.const (.slice la n lc)) (kI j)) [] [] = some ((.pointer (some ⟨b1, o1, none⟩)), []))
 (.claim (opA (Plain.env [] (gE 0)) (.load (.const (.pointer (some ⟨b1, o1, none⟩))) (some 5)) [] (denH [.seg G, .seg X, .seg J]) = some ((.agg ⟨[(.int .i64 x.a), (.int .i64 x.b), (.int .i64 x.c), (.int .i64 x.d), (.bool x.e)]⟩), denH [.seg G, .seg X, .seg J]))
 (.req true (.claim (opA (Plain.env [] (gE 0)) (.iadr 5 none (.const (.slice ea n ec)) (kI j)) [] [] = some ((.pointer (some ⟨b2, o2, none⟩)), []))
 (.claim (opA (Plain.env [] (gE 0)) (.load (.const (.pointer (some ⟨b2, o2, none⟩))) (some 5)) [] (denH [.seg G, .seg X, .seg J, .blk .fix [(sI x.a), (sI x.b), (sI x.c), (sI x.d), (sB x.e)]]) = some ((.agg ⟨[(.int .i64 x.a), (.int .i64 x.b), (.int .i64 x.c), (.int .i64 x.d), (.bool x.e)]⟩), denH [.seg G, .seg X, .seg J, .blk .fix [(sI x.a), (sI x.b), (sI x.c), (sI x.d), (sB x.e)]]))
 (.claim (opA (Plain.env [] (gE 0)) (.eqv true (.cells [false, false, false, false, true]) (.const (.agg ⟨[(.int .i64 x.a), (.int .i64 x.b), (.int .i64 x.c), (.int .i64 x.d), (.bool x.e)]⟩)) (.const (.agg ⟨[(.int .i64 x.a), (.int .i64 x.b), (.int .i64 x.c), (.int .i64 x.d), (.bool x.e)]⟩))) [] [] = some ((.bool false), []))
 (.ret .normal (frS 56 [(0, (.raw (.pointer (some ⟨p, 0, none⟩)))), (1, (rS la n lc)), (4, (sB false)), (5, (rS ea n ec)), (6, (sI (IntKind.wrap .i64 (r + x.c)))), (16, (rS la n lc)), (17, (sI (n : Int))), (18, (sI (IntKind.wrap .i64 (j + 1))))]) [.seg G, .seg X, .seg J, .blk .fix [(sI x.a), (sI x.b), (sI x.c), (sI x.d), (sB x.e)]])))))))
 (.ret (.exit 0) (frS 56 [(0, (.raw (.pointer (some ⟨p, 0, none⟩)))), (1, (rS la n lc)), (4, (sB false)), (5, (rS ea n ec)), (6, (sI r)), (16, (rS la n lc)), (17, (sI (n : Int))), (18, (sI j))]) [.seg G, .seg X, .seg J])) := by kernel_rfl
def hn56w (p : Nat) (la ea : Option Addr) (n lc ec : Nat) (u r : Int) (G X Y : Heap) : Hs := (.use 26000010 (rS ea n ec) ⟨[], [.seg X]⟩ (.pur 10000015 (.bool false) (.con (.lp 0 [0, 1, 4, 6] (frS 56 [(0, (.raw (.pointer (some ⟨p, 0, none⟩)))), (1, (rS la n lc)), (4, (sB false)), (6, (sI r))]) ⟨[], [.seg Y]⟩ (.use 26000046 (sI u) ⟨[], []⟩ (.use 26000048 (sI u) ⟨[], []⟩ (.pur 10000049 (.bool true) (.con (.con (.use 26000052 (sI r) ⟨[], []⟩ (.con (.con (.pur 10000054 (.bool true) (.con .nil))))))))))))))
theorem tree56w (p : Nat) (la ea : Option Addr) (n lc ec : Nat) (u r : Int) (G X Y : Heap) : fnS [] (gE 0) (cE 0) 300 il56 (hn56w p la ea n lc ec u r G X Y) [(.raw (.pointer (some ⟨p, 0, none⟩))), (rS la n lc)] [.seg G] =
(.claim (opA (Plain.env [] (gE 0)) (.call 58 [(.const (.pointer (some ⟨p, 0, none⟩)))]) [] (denH [.seg G]) = some ((.slice ea n ec), denH [.seg G, .seg X]))
 (.claim (opA (Plain.env [] (gE 0)) (.bin .neq (kI (n : Int)) (kI (n : Int))) [] [] = some ((.bool false), []))
 (.claim (Wp (Plain.env [] (gE 0)) (inL [0, 1, 4, 6]) (.block 0 (.loop body56_0)) (denF [.seg G, .seg X] (frS 56 [(0, (.raw (.pointer (some ⟨p, 0, none⟩)))), (1, (rS la n lc)), (4, (sB false)), (5, (rS ea n ec)), (6, (sI 0)), (16, (rS la n lc)), (17, (sI (n : Int))), (18, (sI 0))])) (denH [.seg G, .seg X]) fun e_ s_ h_ => e_ = .normal ∧ s_ = denF [.seg G, .seg X, .seg Y] (frS 56 [(0, (.raw (.pointer (some ⟨p, 0, none⟩)))), (1, (rS la n lc)), (4, (sB false)), (6, (sI r))]) ∧ h_ = denH [.seg G, .seg X, .seg Y])
 (.claim (opA (Plain.env [] (gE 0)) (.call 47 [(.const (.pointer (some ⟨p, 0, none⟩)))]) [] (denH [.seg G, .seg X, .seg Y]) = some ((.int .i64 u), denH [.seg G, .seg X, .seg Y]))
 (.claim (opA (Plain.env [] (gE 0)) (.call 88 [(.const (.slice la n lc))]) [] (denH [.seg G, .seg X, .seg Y]) = some ((.int .i64 u), denH [.seg G, .seg X, .seg Y]))
 (.claim (opA (Plain.env [] (gE 0)) (.bin .eql (kI u) (kI u)) [] [] = some ((.bool true), []))
 (.claim (opA (Plain.env [] (gE 0)) (.call 48 [(.const (.pointer (some ⟨p, 0, none⟩)))]) [] (denH [.seg G, .seg X, .seg Y]) = some ((.int .i64 r), denH [.seg G, .seg X, .seg Y]))
 (.claim (opA (Plain.env [] (gE 0)) (.bin .eql (kI r) (kI r)) [] [] = some ((.bool true), []))
 (.ret .ret [(sB true)] [.seg G, .seg X, .seg Y]))))))))) := by kernel_rfl
theorem eq_h (Γ : Env) (x : Int) (h : Heap) : opA Γ (.bin .eql (kI x) (kI x)) [] h = some (.bool true, h) := by simp [opA, pureA, ev, binA, intBin]
theorem sum56 : Summ Try.prog 56 (runE (Plain.env [] (gE 0)) il56) := Summ.runE mixed (gE_ok 0) (gE_q 0) st56
theorem loop {G X : Heap} {p : Nat} {la ea : Option Addr} {lc ec : Nat} {l : List L5} (hl : RowsW 5 G (.slice la l.length lc) (l.map e5)) (he : RowsW 5 (G ++ X) (.slice ea l.length ec) (l.map e5)) (hm : l.length ≤ 1000000) :
  Wp (Plain.env [] (gE 0)) (inL [0, 1, 4, 6]) (.block 0 (.loop body56_0)) (denF [.seg G, .seg X] (frS 56 [(0, (.raw (.pointer (some ⟨p, 0, none⟩)))), (1, (rS la l.length lc)), (4, (sB false)), (5, (rS ea l.length ec)), (6, (sI 0)), (16, (rS la l.length lc)), (17, (sI (l.length : Int))), (18, (sI 0))])) (denH [.seg G, .seg X]) fun e t h => ∃ Y, e = .normal ∧ t = denF [.seg G, .seg X, .seg Y] (frS 56 [(0, (.raw (.pointer (some ⟨p, 0, none⟩)))), (1, (rS la l.length lc)), (4, (sB false)), (6, (sI (sumF L5.c 0 l)))]) ∧ h = denH [.seg G, .seg X, .seg Y] := by
 refine Wp.bl (fun m t h => ∃ (j : Nat) (r : Int) (J : Heap), j + m = l.length ∧ t = denF [.seg G, .seg X, .seg J] (frS 56 [(0, (.raw (.pointer (some ⟨p, 0, none⟩)))), (1, (rS la l.length lc)), (4, (sB false)), (5, (rS ea l.length ec)), (6, (sI r)), (16, (rS la l.length lc)), (17, (sI (l.length : Int))), (18, (sI j))]) ∧ h = denH [.seg G, .seg X, .seg J] ∧ sumF L5.c 0 l = sumF L5.c r (l.drop j)) ?_ l.length _ _ ⟨0, 0, [], by omega, by show denF _ _ = denF _ _; kernel_rfl, by simp [denH, denL, It.den], rfl⟩
 rintro m t h ⟨j, r, J, hj, ht, hh, hr⟩
 rw [ht, hh]
 clear ht hh
 by_cases hlt : j < l.length
 ·obtain ⟨x, hx⟩ := getE hlt
  have hG : RowsW 5 (denH [.seg G, .seg X, .seg J]) (.slice la l.length lc) (l.map e5) := by
   have := hl.app (X ++ J); simpa [denH, denL, It.den] using this
  have hE : RowsW 5 (denH [.seg G, .seg X, .seg J, .blk .fix [(sI x.a), (sI x.b), (sI x.c), (sI x.d), (sB x.e)]]) (.slice ea l.length ec) (l.map e5) := by
   have := he.app (J ++ [some ⟨.fix, e5 x⟩]); simpa [denH, denL, It.den, den0, e5] using this
  obtain ⟨b1, o1, r1⟩ := hG.rowM hx
  obtain ⟨b2, o2, r2⟩ := hE.rowM hx
  have hd : l.drop j = x :: l.drop (j + 1) := by
   rw [List.drop_eq_getElem_cons hlt]
   rw [List.getElem?_eq_getElem hlt] at hx
   cases hx; rfl
  rw [hd] at hr
  have tr := tree56t p la ea l.length lc ec j r x b1 o1 b2 o2 G X J
  refine Wp.tree (cE_ok 0) tr ⟨by kernel_rfl, by kernel_rfl⟩ ⟨fun _ => ⟨r1.ptr _ _, r1.all _, rfl, r2.ptr _ _, r2.all _, PO.KP.eqc_h _ x _, end_next (m - 1) (by omega) ⟨j + 1, wr (r + x.c), J ++ [some ⟨.fix, e5 x⟩], by omega, ?_, ?_, hr⟩⟩, fun q => by simp at q; omega⟩
  ·rw [wrap64 (x := (j : Int) + 1) (by omega) (by omega)]; show denF _ _ = denF _ _; kernel_rfl
  ·simp [denH, denL, It.den, den0, e5]
 ·have hil : j = l.length := by omega
  have tr := tree56t p la ea l.length lc ec j r ⟨0, 0, 0, 0, false⟩ 0 0 0 0 G X J
  refine Wp.tree (cE_ok 0) tr ⟨by kernel_rfl, by kernel_rfl⟩ ⟨fun q => by simp at q; omega, fun _ => end_exit ⟨J, rfl, ?_, rfl⟩⟩
  rw [hr, hil, List.drop_length]
  show denF _ _ = denF _ _; kernel_rfl
theorem use56 {G : Heap} {p : Nat} {s lv : Value} {l : List L5} (hp : rd G p = some ⟨.fix, [s]⟩) (hs : RowsW 5 G s (l.map e5)) (hl : RowsW 5 G lv (l.map e5)) (hm : l.length ≤ 1000000) : ∃ X, runE (Plain.env [] (gE 0)) il56 [.pointer (some ⟨p, 0, none⟩), lv] G = some (.bool true, G ++ X) := by
 obtain ⟨la, lc, rfl⟩ := hl.slcM
 obtain ⟨ea, ec, X, q1, _, q3⟩ := PO.Y.run59 hp hs hm
 have he := q1.rows (by decide) []
 rw [List.append_nil] at he
 obtain ⟨e, t1, h1, ⟨Y, rfl, rfl, rfl⟩, w⟩ := (loop (p := p) hl he hm).exact
 have e0 : ∀ Z, denH [.seg G, .seg X, .seg Z] = G ++ (X ++ Z) := fun Z => by simp [denH, denL, It.den]
 have hp2 : rd (G ++ (X ++ Y)) p = some ⟨.fix, [s]⟩ := rd_more hp
 have c58 : opA (Plain.env [] (gE 0)) (.call 58 [(.const (.pointer (some ⟨p, 0, none⟩)))]) [] (denH [.seg G]) = some ((.slice ea l.length ec), denH [.seg G, .seg X]) := by
  have e1 : denH [.seg G] = G := by simp [denH, denL, It.den]
  have e2 : denH [.seg G, .seg X] = G ++ X := by simp [denH, denL, It.den]
  rw [e1, e2]
  exact opA_call (args := [_]) rfl q3
 obtain ⟨v, h', r, rfl, rfl⟩ := fnS_run (Q := fun v h' => v = .bool true ∧ h' = G ++ (X ++ Y)) (cE_ok 0) (tree56w p la ea l.length lc ec (sumF L5.b 0 l) (sumF L5.c 0 l) G X Y) ⟨by kernel_rfl, by kernel_rfl⟩
  ⟨c58, PO.KP.ne_h _ _ _, w, by rw [e0]; exact opA_call (args := [_]) rfl (PO.preP_call (F := fun l h => (.int .i64 (sumF L5.b 0 l), h)) hp2 (hs.app _) (by omega)), by rw [e0]; exact opA_call (args := [_]) rfl (A.call (hl.app _) (by omega)), eq_h _ _ _, by rw [e0]; exact opA_call (args := [_]) rfl (PO.preP_call (F := fun l h => (.int .i64 (sumF L5.c 0 l), h)) hp2 (hs.app _) (by omega)), eq_h _ _ _, rfl, e0 Y⟩
 refine ⟨X ++ Y, ?_⟩
 simpa [denH, denL, It.den, denF, denV, denA, den0] using r
end S
end PR
end Go.Proofs.Ytgdojnamjkhknaa
