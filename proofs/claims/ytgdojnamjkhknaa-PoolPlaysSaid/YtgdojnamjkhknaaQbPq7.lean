/-
  The law PoolPlays: its calls; balances and losses, gathered.
-/
import Derived.Test.YtgdojnamjkhknaaQbPq6
import Derived.Test.YtgdojnamjkhknaaQbRm
namespace Go.Proofs.Ytgdojnamjkhknaa
open Go.Am
set_option linter.all false
set_option maxRecDepth 100000
namespace PR
open PO (L5 A4 e5 e4 newL sumF wr e5_1 WF applyF nowOf lostOf pB)
open PO.KP (LsT)
namespace L
abbrev tblK : Plain := [(11, PO.O.sRuns)]
theorem tblK_ok : PlainOk Try.prog tblK := .cons PO.O.runs_ok .nil
noncomputable def g : Env := fun f => match f with
 | 45 => runE (Plain.env [] (WB.gE 0)) PO.N.il45
 | 46 => runE (Plain.env PO.tblP (PO.P.gE 0)) PO.P.il46
 | 49 => runE (Plain.env K.tblK (K.E0.gE 0)) K.E0.il49
 | 50 => runE (Plain.env [] (WB.gE 0)) G.il50
 | 51 => runE (Plain.env PK.tblP (PK.E1.gE 0)) TL.il51
 | 52 => runE (Plain.env PK.tblP (PK.E1.gE 0)) OF.il52
 | 53 => smry R53.pre R53.res
 | 54 => runE (Plain.env [] (P.gE 0)) P.il54
 | 55 => smry T55.pre T55.res
 | 56 => runE (Plain.env [] (S.gE 0)) S.il56
 | _ => fun _ _ => none
theorem g_ok : EnvOk Try.prog g := fun f => by
 unfold g
 split
 ·exact PO.N.sum45
 ·exact PO.P.sum46
 ·exact K.sum49
 ·exact G.sum50
 ·exact TL.sum51
 ·exact OF.sum52
 ·exact R53.summ
 ·exact P.sum54
 ·exact T55.summ
 ·exact S.sum56
 ·exact fun args h v h' e => by cases e
theorem g_q : QuietEnv qt g := fun f args h v h' hf e => by cases hf
noncomputable abbrev gE (k : Nat) : Env := inE tblK [] k g
noncomputable abbrev cE (k : Nat) : CallS := callS tblK [] g 100 k
theorem gE_q (k : Nat) : QuietEnv qt (Plain.env tblK (gE k)) := Plain.quiet (inE_quiet g_q (fun f F h => by cases h) k)
theorem gE_ok (k : Nat) : EnvOk Try.prog (Plain.env tblK (gE k)) := Plain.ok tblK_ok (inE_ok (qt := qt) mixed tblK_ok .nil (fun f F h => by cases h) g_ok g_q k)
theorem cE_ok (k : Nat) : CallOk (Plain.env tblK (gE k)) (cE k) := callS_ok k
theorem call {f : Nat} {args : List Value} {h : Heap} {r : Value × Heap} (ht : tblK.find f args = none) (e : g f args h = some r) : opA (Plain.env tblK (gE 0)) (.call f (args.map .const)) [] h = some r := opA_call ht e
def fstS : IL → IL
 | .seq a _ => a
 | x => x
def sndS : IL → IL
 | .seq _ b => b
 | x => x
def unB : IL → IL
 | .block _ x => x
 | x => x
def il12 : FnIL := ⟨131, [.tmp 8], .seq (.reg [ oT 8 (.mov (.const (.bool false)))]) (.seq (.reg [ oT 24 (.mov (.tmp 0)), oT 25 (.call 49 [(.tmp 24)]), oT 9 (.mov (.tmp 25))]) (.seq (.reg [ oT 26 (.mov (.tmp 9)), oT 27 (.call 45 [(.tmp 26)]), oT 28 (.mov (.tmp 9)), oT 29 (.call 50 [(.tmp 28)]), oT 10 (.mov (.tmp 27)), oT 11 (.mov (.tmp 29))]) (.seq (.seq (.reg [ oT 30 (.mov (.tmp 10)), oT 31 (.eqv false .ptr (.tmp 30) (.const (.pointer none)))]) (.ite (.tmp 31) (.seq (.reg [ oT 8 (.mov (.const (.bool false)))]) (.ret)) (.skip))) (.seq (.seq (.reg [ oT 12 (.mov (kI 0))]) (.block 0 (.loop (.seq (.seq (.reg [ oT 32 (.mov (.tmp 12)), oT 33 (.mov (.tmp 1)), oT 34 (.len (.tmp 33)), oT 35 (.bin .lss (.tmp 32) (.tmp 34)), oT 36 (.mov (.tmp 35)), ⟨(some 37), (some (36, true)), .mov (.tmp 12)⟩, ⟨(some 38), (some (36, true)), .bin .lss (.tmp 37) (kI 8)⟩, oT 39 (.pick (.tmp 36) (.tmp 38) (.const (.bool false)))]) (.ite (.tmp 39) (.skip) (.exit 0))) (.seq (.block 1 (.seq (.reg [ oT 13 (.mov (.const (.slice none 0 0)))]) (.seq (.block 2 (.seq (.reg [ oT 70 (.mov (.tmp 12)), oT 71 (.mov (.tmp 3)), oT 72 (.bin .eql (.tmp 70) (.tmp 71)), oT 69 (.mov (.tmp 72))]) (.ite (.tmp 69) (.reg [ oT 73 (.mov (.tmp 13)), oT 74 (.mov (.tmp 2)), oT 75 (.mov (.tmp 2)), oT 76 (.len (.tmp 75)), oT 77 (.mn (.tmp 76) (kI 6)), oT 78 (.slice 7 (.tmp 74) none (some (.tmp 77)) none), oT 79 (.append 7 56 (.tmp 73) (.tmp 78)), oT 13 (.mov (.tmp 79))]) (.seq (.reg [ oT 81 (.mov (.tmp 12)), oT 82 (.bin .and (.tmp 81) (kI 3)), oT 83 (.bin .eql (.tmp 82) (kI 3)), oT 80 (.mov (.tmp 83))]) (.ite (.tmp 80) (.reg [ oT 84 (.mov (.tmp 1)), oT 85 (.mov (.tmp 12)), oT 86 (.iadr 6 none (.tmp 84) (.tmp 85)), oT 87 (.load (.tmp 86) (some 6)), oT 88 (.call 51 [(.tmp 87)]), oT 13 (.mov (.tmp 88))]) (.seq (.reg [ oT 14 (.mov (.const (.slice none 0 0)))]) (.seq (.reg [ oT 15 (.mov (.const (.slice none 0 0)))]) (.seq (.seq (.reg [ oT 42 (.mov (.tmp 11)), oT 43 (.len (.tmp 42)), oT 44 (.mov (kI 0))]) (.block 3 (.loop (.seq (.reg [ oT 45 (.bin .lss (.tmp 44) (.tmp 43))]) (.seq (.ite (.tmp 45) (.skip) (.exit 3)) (.seq (.block 4 (.seq (.reg [ oT 46 (.iadr 5 none (.tmp 42) (.tmp 44)), oT 47 (.load (.tmp 46) (some 5)), oT 17 (.alloc [(.int .i64 0), (.int .i64 0), (.int .i64 0), (.int .i64 0), (.bool false)]), oN (.store (.tmp 17) (.tmp 47) 5)]) (.seq (.reg [ oT 48 (.mov (.tmp 14)), oT 49 (.fadr 0 (.tmp 17)), oT 50 (.load (.tmp 49) none), oT 51 (.fadr 1 (.tmp 17)), oT 52 (.load (.tmp 51) none), oT 53 (.build [(.int .i64 0), (.int .i64 0)] [(0, 1, (.tmp 50)), (1, 1, (.tmp 52))]), oT 54 (.mkrow [(.int .i64 0), (.int .i64 0)] 1 [(0, 2, (.tmp 53))]), oT 55 (.append 2 16 (.tmp 48) (.tmp 54)), oT 14 (.mov (.tmp 55))]) (.reg [ oT 56 (.mov (.tmp 15)), oT 57 (.fadr 2 (.tmp 17)), oT 58 (.load (.tmp 57) none), oT 59 (.mkrow [(.int .i64 0)] 1 [(0, 1, (.tmp 58))]), oT 60 (.append 1 8 (.tmp 56) (.tmp 59)), oT 15 (.mov (.tmp 60))])))) (.reg [ oT 61 (.bin .add (.tmp 44) (kI 1)), oT 44 (.mov (.tmp 61))]))))))) (.reg [ oT 62 (.mov (.tmp 1)), oT 63 (.mov (.tmp 12)), oT 64 (.iadr 6 none (.tmp 62) (.tmp 63)), oT 65 (.load (.tmp 64) (some 6)), oT 66 (.mov (.tmp 14)), oT 67 (.mov (.tmp 15)), oT 68 (.call 52 [(.tmp 65), (.tmp 66), (.tmp 67)]), oT 13 (.mov (.tmp 68))]))))))))) (.seq (.reg [ oT 89 (.mov (.tmp 13)), oT 90 (.build [(.int .i64 0), (.int .i64 0), (.int .i64 0), (.int .i64 0), (.int .i64 0), (.int .i64 0), (.bool false)] [(0, 1, (kI 9))]), oT 91 (.call 53 [(.tmp 89), (.tmp 90)]), oT 18 (.mov (.tmp 91))]) (.seq (.reg [ oT 93 (.mov (.tmp 10)), oT 94 (.mov (.tmp 18)), oT 95 (.mov (.tmp 13)), oT 96 (.len (.tmp 95)), oT 97 (.slice 7 (.tmp 94) none (some (.tmp 96)) none), oT 98 (.call 46 [(.tmp 93), (.tmp 97)]), oT 92 (.mov (.tmp 98)), oT 99 (.ext 0 (.tmp 92)), oT 100 (.ext 1 (.tmp 92)), oT 19 (.alloc [(.int .i64 0), (.int .i64 0), (.int .i64 0), (.int .i64 0)]), oN (.store (.tmp 19) (.tmp 99) 4), oT 20 (.mov (.tmp 100))]) (.seq (.reg [ oT 102 (.mov (.tmp 11)), oT 103 (.mov (.tmp 13)), oT 104 (.call 54 [(.tmp 102), (.tmp 103)]), oT 101 (.mov (.tmp 104)), oT 105 (.ext 0 (.tmp 101)), oT 106 (.ext 1 (.tmp 101)), oT 107 (.ext 2 (.tmp 101)), oT 22 (.alloc [(.int .i64 0), (.int .i64 0), (.int .i64 0), (.int .i64 0)]), oT 21 (.mov (.tmp 105)), oN (.store (.tmp 22) (.tmp 106) 4), oT 23 (.mov (.tmp 107))]) (.seq (.seq (.reg [ oT 108 (.mov (.tmp 20)), oT 109 (.mov (.tmp 23)), oT 110 (.bin .neq (.tmp 108) (.tmp 109)), oT 111 (.mov (.tmp 110)), ⟨(some 112), (some (111, false)), .load (.tmp 19) (some 4)⟩, ⟨(some 113), (some (111, false)), .load (.tmp 22) (some 4)⟩, ⟨(some 114), (some (111, false)), .eqv true (.cells [false, false, false, false]) (.tmp 112) (.tmp 113)⟩, oT 115 (.pick (.tmp 111) (.const (.bool true)) (.tmp 114)), oT 116 (.mov (.tmp 115)), ⟨(some 117), (some (116, false)), .mov (.tmp 18)⟩, ⟨(some 118), (some (116, false)), .mov (.tmp 13)⟩, ⟨(some 119), (some (116, false)), .build [(.int .i64 0), (.int .i64 0), (.int .i64 0), (.int .i64 0), (.int .i64 0), (.int .i64 0), (.bool false)] [(0, 1, (kI 9))]⟩, ⟨(some 120), (some (116, false)), .call 55 [(.tmp 117), (.tmp 118), (.tmp 119)]⟩, ⟨(some 121), (some (116, false)), .un .not (.tmp 120)⟩, oT 122 (.pick (.tmp 116) (.const (.bool true)) (.tmp 121))]) (.ite (.tmp 122) (.seq (.reg [ oT 8 (.mov (.const (.bool false)))]) (.ret)) (.skip))) (.seq (.seq (.reg [ oT 123 (.mov (.tmp 23)), oT 124 (.bin .eql (.tmp 123) (kI 0))]) (.ite (.tmp 124) (.reg [ oT 125 (.mov (.tmp 21)), oT 11 (.mov (.tmp 125))]) (.skip))) (.seq (.reg [ oT 126 (.mov (.tmp 10)), oT 127 (.mov (.tmp 11)), oT 128 (.call 56 [(.tmp 126), (.tmp 127)]), oT 129 (.un .not (.tmp 128))]) (.ite (.tmp 129) (.seq (.reg [ oT 8 (.mov (.const (.bool false)))]) (.ret)) (.skip))))))))))) (.reg [ oT 40 (.mov (.tmp 12)), oT 41 (.bin .add (.tmp 40) (kI 1)), oT 12 (.mov (.tmp 41))])))))) (.seq (.reg [ oT 130 (.call 11 []), oT 8 (.mov (.tmp 130))]) (.ret))))))⟩
theorem st12 : stF Try.prog qt 12 = some il12 := by kernel_rfl
abbrev r12_0 : IL := il12.body
def c12_0 : IL := (splitS 3 r12_0).1
def r12_1 : IL := (splitS 3 r12_0).2
def body12_0 : IL := .seq (.seq (.reg [ oT 32 (.mov (.tmp 12)), oT 33 (.mov (.tmp 1)), oT 34 (.len (.tmp 33)), oT 35 (.bin .lss (.tmp 32) (.tmp 34)), oT 36 (.mov (.tmp 35)), ⟨(some 37), (some (36, true)), .mov (.tmp 12)⟩, ⟨(some 38), (some (36, true)), .bin .lss (.tmp 37) (kI 8)⟩, oT 39 (.pick (.tmp 36) (.tmp 38) (.const (.bool false)))]) (.ite (.tmp 39) (.skip) (.exit 0))) (.seq (.block 1 (.seq (.reg [ oT 13 (.mov (.const (.slice none 0 0)))]) (.seq (.block 2 (.seq (.reg [ oT 70 (.mov (.tmp 12)), oT 71 (.mov (.tmp 3)), oT 72 (.bin .eql (.tmp 70) (.tmp 71)), oT 69 (.mov (.tmp 72))]) (.ite (.tmp 69) (.reg [ oT 73 (.mov (.tmp 13)), oT 74 (.mov (.tmp 2)), oT 75 (.mov (.tmp 2)), oT 76 (.len (.tmp 75)), oT 77 (.mn (.tmp 76) (kI 6)), oT 78 (.slice 7 (.tmp 74) none (some (.tmp 77)) none), oT 79 (.append 7 56 (.tmp 73) (.tmp 78)), oT 13 (.mov (.tmp 79))]) (.seq (.reg [ oT 81 (.mov (.tmp 12)), oT 82 (.bin .and (.tmp 81) (kI 3)), oT 83 (.bin .eql (.tmp 82) (kI 3)), oT 80 (.mov (.tmp 83))]) (.ite (.tmp 80) (.reg [ oT 84 (.mov (.tmp 1)), oT 85 (.mov (.tmp 12)), oT 86 (.iadr 6 none (.tmp 84) (.tmp 85)), oT 87 (.load (.tmp 86) (some 6)), oT 88 (.call 51 [(.tmp 87)]), oT 13 (.mov (.tmp 88))]) (.seq (.reg [ oT 14 (.mov (.const (.slice none 0 0)))]) (.seq (.reg [ oT 15 (.mov (.const (.slice none 0 0)))]) (.seq (.seq (.reg [ oT 42 (.mov (.tmp 11)), oT 43 (.len (.tmp 42)), oT 44 (.mov (kI 0))]) (.block 3 (.loop (.seq (.reg [ oT 45 (.bin .lss (.tmp 44) (.tmp 43))]) (.seq (.ite (.tmp 45) (.skip) (.exit 3)) (.seq (.block 4 (.seq (.reg [ oT 46 (.iadr 5 none (.tmp 42) (.tmp 44)), oT 47 (.load (.tmp 46) (some 5)), oT 17 (.alloc [(.int .i64 0), (.int .i64 0), (.int .i64 0), (.int .i64 0), (.bool false)]), oN (.store (.tmp 17) (.tmp 47) 5)]) (.seq (.reg [ oT 48 (.mov (.tmp 14)), oT 49 (.fadr 0 (.tmp 17)), oT 50 (.load (.tmp 49) none), oT 51 (.fadr 1 (.tmp 17)), oT 52 (.load (.tmp 51) none), oT 53 (.build [(.int .i64 0), (.int .i64 0)] [(0, 1, (.tmp 50)), (1, 1, (.tmp 52))]), oT 54 (.mkrow [(.int .i64 0), (.int .i64 0)] 1 [(0, 2, (.tmp 53))]), oT 55 (.append 2 16 (.tmp 48) (.tmp 54)), oT 14 (.mov (.tmp 55))]) (.reg [ oT 56 (.mov (.tmp 15)), oT 57 (.fadr 2 (.tmp 17)), oT 58 (.load (.tmp 57) none), oT 59 (.mkrow [(.int .i64 0)] 1 [(0, 1, (.tmp 58))]), oT 60 (.append 1 8 (.tmp 56) (.tmp 59)), oT 15 (.mov (.tmp 60))])))) (.reg [ oT 61 (.bin .add (.tmp 44) (kI 1)), oT 44 (.mov (.tmp 61))]))))))) (.reg [ oT 62 (.mov (.tmp 1)), oT 63 (.mov (.tmp 12)), oT 64 (.iadr 6 none (.tmp 62) (.tmp 63)), oT 65 (.load (.tmp 64) (some 6)), oT 66 (.mov (.tmp 14)), oT 67 (.mov (.tmp 15)), oT 68 (.call 52 [(.tmp 65), (.tmp 66), (.tmp 67)]), oT 13 (.mov (.tmp 68))]))))))))) (.seq (.reg [ oT 89 (.mov (.tmp 13)), oT 90 (.build [(.int .i64 0), (.int .i64 0), (.int .i64 0), (.int .i64 0), (.int .i64 0), (.int .i64 0), (.bool false)] [(0, 1, (kI 9))]), oT 91 (.call 53 [(.tmp 89), (.tmp 90)]), oT 18 (.mov (.tmp 91))]) (.seq (.reg [ oT 93 (.mov (.tmp 10)), oT 94 (.mov (.tmp 18)), oT 95 (.mov (.tmp 13)), oT 96 (.len (.tmp 95)), oT 97 (.slice 7 (.tmp 94) none (some (.tmp 96)) none), oT 98 (.call 46 [(.tmp 93), (.tmp 97)]), oT 92 (.mov (.tmp 98)), oT 99 (.ext 0 (.tmp 92)), oT 100 (.ext 1 (.tmp 92)), oT 19 (.alloc [(.int .i64 0), (.int .i64 0), (.int .i64 0), (.int .i64 0)]), oN (.store (.tmp 19) (.tmp 99) 4), oT 20 (.mov (.tmp 100))]) (.seq (.reg [ oT 102 (.mov (.tmp 11)), oT 103 (.mov (.tmp 13)), oT 104 (.call 54 [(.tmp 102), (.tmp 103)]), oT 101 (.mov (.tmp 104)), oT 105 (.ext 0 (.tmp 101)), oT 106 (.ext 1 (.tmp 101)), oT 107 (.ext 2 (.tmp 101)), oT 22 (.alloc [(.int .i64 0), (.int .i64 0), (.int .i64 0), (.int .i64 0)]), oT 21 (.mov (.tmp 105)), oN (.store (.tmp 22) (.tmp 106) 4), oT 23 (.mov (.tmp 107))]) (.seq (.seq (.reg [ oT 108 (.mov (.tmp 20)), oT 109 (.mov (.tmp 23)), oT 110 (.bin .neq (.tmp 108) (.tmp 109)), oT 111 (.mov (.tmp 110)), ⟨(some 112), (some (111, false)), .load (.tmp 19) (some 4)⟩, ⟨(some 113), (some (111, false)), .load (.tmp 22) (some 4)⟩, ⟨(some 114), (some (111, false)), .eqv true (.cells [false, false, false, false]) (.tmp 112) (.tmp 113)⟩, oT 115 (.pick (.tmp 111) (.const (.bool true)) (.tmp 114)), oT 116 (.mov (.tmp 115)), ⟨(some 117), (some (116, false)), .mov (.tmp 18)⟩, ⟨(some 118), (some (116, false)), .mov (.tmp 13)⟩, ⟨(some 119), (some (116, false)), .build [(.int .i64 0), (.int .i64 0), (.int .i64 0), (.int .i64 0), (.int .i64 0), (.int .i64 0), (.bool false)] [(0, 1, (kI 9))]⟩, ⟨(some 120), (some (116, false)), .call 55 [(.tmp 117), (.tmp 118), (.tmp 119)]⟩, ⟨(some 121), (some (116, false)), .un .not (.tmp 120)⟩, oT 122 (.pick (.tmp 116) (.const (.bool true)) (.tmp 121))]) (.ite (.tmp 122) (.seq (.reg [ oT 8 (.mov (.const (.bool false)))]) (.ret)) (.skip))) (.seq (.seq (.reg [ oT 123 (.mov (.tmp 23)), oT 124 (.bin .eql (.tmp 123) (kI 0))]) (.ite (.tmp 124) (.reg [ oT 125 (.mov (.tmp 21)), oT 11 (.mov (.tmp 125))]) (.skip))) (.seq (.reg [ oT 126 (.mov (.tmp 10)), oT 127 (.mov (.tmp 11)), oT 128 (.call 56 [(.tmp 126), (.tmp 127)]), oT 129 (.un .not (.tmp 128))]) (.ite (.tmp 129) (.seq (.reg [ oT 8 (.mov (.const (.bool false)))]) (.ret)) (.skip))))))))))) (.reg [ oT 40 (.mov (.tmp 12)), oT 41 (.bin .add (.tmp 40) (kI 1)), oT 12 (.mov (.tmp 41))]))
def t12_h : IL := fstS body12_0
def t12_b : IL := unB (fstS (sndS body12_0))
def t12_i : IL := sndS (sndS body12_0)
def t12_1 : IL := (splitS 1 t12_b).1
def t12_2 : IL := (splitS 1 t12_b).2
def body12_3 : IL := .seq (.reg [ oT 45 (.bin .lss (.tmp 44) (.tmp 43))]) (.seq (.ite (.tmp 45) (.skip) (.exit 3)) (.seq (.block 4 (.seq (.reg [ oT 46 (.iadr 5 none (.tmp 42) (.tmp 44)), oT 47 (.load (.tmp 46) (some 5)), oT 17 (.alloc [(.int .i64 0), (.int .i64 0), (.int .i64 0), (.int .i64 0), (.bool false)]), oN (.store (.tmp 17) (.tmp 47) 5)]) (.seq (.reg [ oT 48 (.mov (.tmp 14)), oT 49 (.fadr 0 (.tmp 17)), oT 50 (.load (.tmp 49) none), oT 51 (.fadr 1 (.tmp 17)), oT 52 (.load (.tmp 51) none), oT 53 (.build [(.int .i64 0), (.int .i64 0)] [(0, 1, (.tmp 50)), (1, 1, (.tmp 52))]), oT 54 (.mkrow [(.int .i64 0), (.int .i64 0)] 1 [(0, 2, (.tmp 53))]), oT 55 (.append 2 16 (.tmp 48) (.tmp 54)), oT 14 (.mov (.tmp 55))]) (.reg [ oT 56 (.mov (.tmp 15)), oT 57 (.fadr 2 (.tmp 17)), oT 58 (.load (.tmp 57) none), oT 59 (.mkrow [(.int .i64 0)] 1 [(0, 1, (.tmp 58))]), oT 60 (.append 1 8 (.tmp 56) (.tmp 59)), oT 15 (.mov (.tmp 60))])))) (.reg [ oT 61 (.bin .add (.tmp 44) (kI 1)), oT 44 (.mov (.tmp 61))])))
def hn12u (ta ra la na oa na2 oa2 a1 : Option Addr) (tn ct rn rc n lc nc oc nc2 oc2 c1 j : Nat) (at_ i : Int) (x : L5) (b1 o1 : Nat) (A B J J2 J3 X Y : Heap) : Hs := (.sym (.pur 22000046 (.pointer (some ⟨b1, o1, none⟩)) (.use 7000047 (.raw (.agg ⟨[(.int .i64 x.a), (.int .i64 x.b), (.int .i64 x.c), (.int .i64 x.d), (.bool x.e)]⟩)) ⟨[], []⟩ (.use 30000055 (rS na2 (j + 1) nc2) ⟨[(3, .seg J2)], [.seg X]⟩ (.use 30000060 (rS oa2 (j + 1) oc2) ⟨[(3, .seg J3)], [.seg Y]⟩ .nil)))) .nil)
theorem tree12u (ta ra la na oa na2 oa2 a1 : Option Addr) (tn ct rn rc n lc nc oc nc2 oc2 c1 j : Nat) (at_ i : Int) (x : L5) (b1 o1 : Nat) (A B J J2 J3 X Y : Heap) : pieceS tblK (gE 0) (cE 0) 300 (fun i => exL i body12_3 || inL [1, 2, 3, 8, 10, 11, 12, 13, 14, 15] i) body12_3 (hn12u ta ra la na oa na2 oa2 a1 tn ct rn rc n lc nc oc nc2 oc2 c1 j at_ i x b1 o1 A B J J2 J3 X Y) (frS 131 [(1, (rS ta tn ct)), (2, (rS ra rn rc)), (3, (sI at_)), (8, (sB false)), (10, (.ptr 1 0)), (11, (rS la n lc)), (12, (sI i)), (13, nS), (14, (rS na j nc)), (15, (rS oa j oc)), (42, (rS la n lc)), (43, (sI (n : Int))), (44, (sI j))]) [.seg A, .blk .fix [(rS a1 n c1)], .seg B, .seg J] =
(.br (decide (j < (n : Int)))
 (.claim (opA (Plain.env tblK (gE 0)) (.iadr 5 none (.const (.slice la n lc)) (kI j)) [] [] = some ((.pointer (some ⟨b1, o1, none⟩)), []))
 (.claim (opA (Plain.env tblK (gE 0)) (.load (.const (.pointer (some ⟨b1, o1, none⟩))) (some 5)) [] (denH [.seg A, .blk .fix [(rS a1 n c1)], .seg B, .seg J]) = some ((.agg ⟨[(.int .i64 x.a), (.int .i64 x.b), (.int .i64 x.c), (.int .i64 x.d), (.bool x.e)]⟩), denH [.seg A, .blk .fix [(rS a1 n c1)], .seg B, .seg J]))
 (.claim (List.length J2 = List.length J) (.claim (opA (Plain.env tblK (gE 0)) (.append 2 16 (.const (.slice na j nc)) (.const (denV (ofs [.seg A, .blk .fix [(rS a1 n c1)], .seg B, .seg J, .blk .fix [(sI x.a), (sI x.b), (sI x.c), (sI x.d), (sB x.e)], .blk .fix [(sI x.a), (sI x.b)]]) (.sl 5 0 1 1)))) [] (denH [.seg A, .blk .fix [(rS a1 n c1)], .seg B, .seg J, .blk .fix [(sI x.a), (sI x.b), (sI x.c), (sI x.d), (sB x.e)], .blk .fix [(sI x.a), (sI x.b)]]) = some ((.slice na2 (j + 1) nc2), denH [.seg A, .blk .fix [(rS a1 n c1)], .seg B, .seg J2, .blk .fix [(sI x.a), (sI x.b), (sI x.c), (sI x.d), (sB x.e)], .blk .fix [(sI x.a), (sI x.b)], .seg X]))
 (.claim (List.length J3 = List.length J2) (.claim (opA (Plain.env tblK (gE 0)) (.append 1 8 (.const (.slice oa j oc)) (.const (denV (ofs [.seg A, .blk .fix [(rS a1 n c1)], .seg B, .seg J2, .blk .fix [(sI x.a), (sI x.b), (sI x.c), (sI x.d), (sB x.e)], .blk .fix [(sI x.a), (sI x.b)], .seg X, .blk .fix [(sI x.c)]]) (.sl 7 0 1 1)))) [] (denH [.seg A, .blk .fix [(rS a1 n c1)], .seg B, .seg J2, .blk .fix [(sI x.a), (sI x.b), (sI x.c), (sI x.d), (sB x.e)], .blk .fix [(sI x.a), (sI x.b)], .seg X, .blk .fix [(sI x.c)]]) = some ((.slice oa2 (j + 1) oc2), denH [.seg A, .blk .fix [(rS a1 n c1)], .seg B, .seg J3, .blk .fix [(sI x.a), (sI x.b), (sI x.c), (sI x.d), (sB x.e)], .blk .fix [(sI x.a), (sI x.b)], .seg X, .blk .fix [(sI x.c)], .seg Y]))
 (.ret .normal (frS 131 [(1, (rS ta tn ct)), (2, (rS ra rn rc)), (3, (sI at_)), (8, (sB false)), (10, (.ptr 1 0)), (11, (rS la n lc)), (12, (sI i)), (13, nS), (14, (rS na2 (j + 1) nc2)), (15, (rS oa2 (j + 1) oc2)), (42, (rS la n lc)), (43, (sI (n : Int))), (44, (sI (IntKind.wrap .i64 (j + 1))))]) [.seg A, .blk .fix [(rS a1 n c1)], .seg B, .seg J3, .blk .fix [(sI x.a), (sI x.b), (sI x.c), (sI x.d), (sB x.e)], .blk .fix [(sI x.a), (sI x.b)], .seg X, .blk .fix [(sI x.c)], .seg Y])))))))
 (.ret (.exit 3) (frS 131 [(1, (rS ta tn ct)), (2, (rS ra rn rc)), (3, (sI at_)), (8, (sB false)), (10, (.ptr 1 0)), (11, (rS la n lc)), (12, (sI i)), (13, nS), (14, (rS na j nc)), (15, (rS oa j oc)), (42, (rS la n lc)), (43, (sI (n : Int))), (44, (sI j))]) [.seg A, .blk .fix [(rS a1 n c1)], .seg B, .seg J])) := by kernel_rfl
theorem loopU {A B : Heap} {ta ra a1 la : Option Addr} {tn ct rn rc c1 lc : Nat} {l : List L5} {at_ i : Int} (hw : RowsW 5 (denH [.seg A, .blk .fix [(rS a1 l.length c1)], .seg B]) (.slice la l.length lc) (l.map e5)) (hm : l.length ≤ 1000) :
  Wp (Plain.env tblK (gE 0)) (inL [1, 2, 3, 8, 10, 11, 12, 13, 14, 15]) (.block 3 (.loop body12_3)) (denF [.seg A, .blk .fix [(rS a1 l.length c1)], .seg B] (frS 131 [(1, (rS ta tn ct)), (2, (rS ra rn rc)), (3, (sI at_)), (8, (sB false)), (10, (.ptr 1 0)), (11, (rS la l.length lc)), (12, (sI i)), (13, nS), (14, nS), (15, nS), (42, (rS la l.length lc)), (43, (sI (l.length : Int))), (44, (sI 0))])) (denH [.seg A, .blk .fix [(rS a1 l.length c1)], .seg B]) fun e t hh => ∃ (X2 : Heap) (na oa : Option Addr) (nc oc : Nat), e = .normal ∧ t = denF [.seg A, .blk .fix [(rS a1 l.length c1)], .seg B, .seg X2] (frS 131 [(1, (rS ta tn ct)), (2, (rS ra rn rc)), (3, (sI at_)), (8, (sB false)), (10, (.ptr 1 0)), (11, (rS la l.length lc)), (12, (sI i)), (13, nS), (14, (rS na l.length nc)), (15, (rS oa l.length oc))]) ∧ hh = denH [.seg A, .blk .fix [(rS a1 l.length c1)], .seg B, .seg X2] ∧
   LsT 2 (denH [.seg A, .blk .fix [(rS a1 l.length c1)], .seg B]) X2 (.slice na l.length nc) ((nowOf l).map e2) ∧ LsT 1 (denH [.seg A, .blk .fix [(rS a1 l.length c1)], .seg B]) X2 (.slice oa l.length oc) ((lostOf l).map ir) := by
 refine Wp.bl (fun m t hh => ∃ (j : Nat) (J : Heap) (na oa : Option Addr) (nc oc : Nat), j + m = l.length ∧ t = denF [.seg A, .blk .fix [(rS a1 l.length c1)], .seg B, .seg J] (frS 131 [(1, (rS ta tn ct)), (2, (rS ra rn rc)), (3, (sI at_)), (8, (sB false)), (10, (.ptr 1 0)), (11, (rS la l.length lc)), (12, (sI i)), (13, nS), (14, (rS na j nc)), (15, (rS oa j oc)), (42, (rS la l.length lc)), (43, (sI (l.length : Int))), (44, (sI j))]) ∧ hh = denH [.seg A, .blk .fix [(rS a1 l.length c1)], .seg B, .seg J] ∧
   LsT 2 (denH [.seg A, .blk .fix [(rS a1 l.length c1)], .seg B]) J (.slice na j nc) ((nowOf (l.take j)).map e2) ∧ LsT 1 (denH [.seg A, .blk .fix [(rS a1 l.length c1)], .seg B]) J (.slice oa j oc) ((lostOf (l.take j)).map ir)) ?_ l.length _ _
  ⟨0, [], none, none, 0, 0, by omega, by show denF _ _ = denF _ _; kernel_rfl, by simp [denH, denL, It.den, den0], .inl ⟨rfl, rfl⟩, .inl ⟨rfl, rfl⟩⟩
 rintro m t hh ⟨j, J, na, oa, nc, oc, hj, ht, eh, h2, h1⟩
 rw [ht, eh]
 clear ht eh
 obtain ⟨HH, eH⟩ : ∃ HH, HH = denH [.seg A, .blk .fix [(rS a1 l.length c1)], .seg B] := ⟨_, rfl⟩
 by_cases hlt : j < l.length
 ·obtain ⟨x, hx⟩ := getE hlt
  have l2 : ((nowOf (l.take j)).map e2).length = j := by simp [nowOf]; omega
  have l1 : ((lostOf (l.take j)).map ir).length = j := by simp [lostOf]; omega
  have eJ : denH [.seg A, .blk .fix [(rS a1 l.length c1)], .seg B, .seg J] = HH ++ J := by rw [eH]; simp [denH, denL, It.den, den0]
  have hw1 : RowsW 5 (denH [.seg A, .blk .fix [(rS a1 l.length c1)], .seg B, .seg J]) (.slice la l.length lc) (l.map e5) := by rw [eJ, eH]; exact hw.app _
  obtain ⟨b1, o1, r1⟩ := hw1.rowM hx
  rw [← eH] at h2 h1
  have e6 : denH [.seg A, .blk .fix [(rS a1 l.length c1)], .seg B, .seg J, .blk .fix [(sI x.a), (sI x.b), (sI x.c), (sI x.d), (sB x.e)], .blk .fix [(sI x.a), (sI x.b)]] = HH ++ (J ++ [some ⟨.fix, e5 x⟩, some ⟨.fix, [.int .i64 x.a, .int .i64 x.b]⟩]) := by rw [eH]; simp [denH, denL, It.den, den0, e5]
  have s6 := src_item (I := [.seg A, .blk .fix [(rS a1 l.length c1)], .seg B, .seg J, .blk .fix [(sI x.a), (sI x.b), (sI x.c), (sI x.d), (sB x.e)], .blk .fix [(sI x.a), (sI x.b)]]) (k := 5) (o := 0) (n := 1) (c := 1) (w := 2) rfl (by simp)
  rw [e6] at s6
  obtain ⟨J2, q1, q2, q3⟩ := h2.app (w' := 1) (eby := 16) (by decide) h1 (x := denV (ofs [.seg A, .blk .fix [(rS a1 l.length c1)], .seg B, .seg J, .blk .fix [(sI x.a), (sI x.b), (sI x.c), (sI x.d), (sB x.e)], .blk .fix [(sI x.a), (sI x.b)]]) (.sl 5 0 1 1)) (R := [some ⟨.fix, e5 x⟩, some ⟨.fix, [.int .i64 x.a, .int .i64 x.b]⟩]) (row := e2 ⟨x.a, x.b⟩) s6 rfl (by decide) (by rw [l2]; omega) (by rw [l2]; omega)
  rw [l2] at q2
  obtain ⟨g2, eg2⟩ : ∃ g2 : Option Blk, g2 = some ⟨.grown 2, ((nowOf (l.take j)).map e2 ++ [e2 ⟨x.a, x.b⟩]).flatten⟩ := ⟨_, rfl⟩
  rw [← eg2] at q2
  have e8 : denH [.seg A, .blk .fix [(rS a1 l.length c1)], .seg B, .seg J2, .blk .fix [(sI x.a), (sI x.b), (sI x.c), (sI x.d), (sB x.e)], .blk .fix [(sI x.a), (sI x.b)], .seg [g2], .blk .fix [(sI x.c)]] = HH ++ (J2 ++ [some ⟨.fix, e5 x⟩, some ⟨.fix, [.int .i64 x.a, .int .i64 x.b]⟩, g2, some ⟨.fix, [.int .i64 x.c]⟩]) := by rw [eH]; simp [denH, denL, It.den, den0, e5]
  have s8 := src_item (I := [.seg A, .blk .fix [(rS a1 l.length c1)], .seg B, .seg J2, .blk .fix [(sI x.a), (sI x.b), (sI x.c), (sI x.d), (sB x.e)], .blk .fix [(sI x.a), (sI x.b)], .seg [g2], .blk .fix [(sI x.c)]]) (k := 7) (o := 0) (n := 1) (c := 1) (w := 1) rfl (by simp)
  rw [e8] at s8
  obtain ⟨J3, p1, p2, _⟩ := q3.app (w' := 2) (eby := 8) (l' := .slice none 0 0) (rows' := []) (by decide) (.inl ⟨rfl, rfl⟩) (x := denV (ofs [.seg A, .blk .fix [(rS a1 l.length c1)], .seg B, .seg J2, .blk .fix [(sI x.a), (sI x.b), (sI x.c), (sI x.d), (sB x.e)], .blk .fix [(sI x.a), (sI x.b)], .seg [g2], .blk .fix [(sI x.c)]]) (.sl 7 0 1 1)) (R := [some ⟨.fix, e5 x⟩, some ⟨.fix, [.int .i64 x.a, .int .i64 x.b]⟩, g2, some ⟨.fix, [.int .i64 x.c]⟩]) (row := ir x.c) s8 rfl (by decide) (by rw [l1]; omega) (by rw [l1]; omega)
  rw [l1] at p2
  obtain ⟨g1, eg1⟩ : ∃ g1 : Option Blk, g1 = some ⟨.grown 1, ((lostOf (l.take j)).map ir ++ [ir x.c]).flatten⟩ := ⟨_, rfl⟩
  rw [← eg1] at p2
  have tk2 : (nowOf (l.take (j + 1))).map e2 = (nowOf (l.take j)).map e2 ++ [e2 ⟨x.a, x.b⟩] := by rw [WB.take_one hx]; simp [nowOf]
  have tk1 : (lostOf (l.take (j + 1))).map ir = (lostOf (l.take j)).map ir ++ [ir x.c] := by rw [WB.take_one hx]; simp [lostOf]
  have tr := tree12u ta ra la na oa (some ⟨HH.length + (J2.length + 2), 0, none⟩) (some ⟨HH.length + (J3.length + 4), 0, none⟩) a1 tn ct rn rc l.length lc nc oc (j + 1) (j + 1) c1 j at_ i x b1 o1 A B J J2 J3 [g2] [g1]
  refine Wp.tree (cE_ok 0) tr ⟨by kernel_rfl, by kernel_rfl⟩ ⟨fun _ => ⟨r1.ptr _ _, r1.all _, q1, ?_, p1, ?_, end_next (m - 1) (by omega) ⟨j + 1, J3 ++ ([some ⟨.fix, e5 x⟩, some ⟨.fix, [.int .i64 x.a, .int .i64 x.b]⟩] ++ (g2 :: [some ⟨.fix, [.int .i64 x.c]⟩, g1])), some ⟨HH.length + (J2.length + 2), 0, none⟩, some ⟨HH.length + (J3.length + 4), 0, none⟩, j + 1, j + 1, by omega, ?_, ?_, ?_, ?_⟩⟩, fun q => by simp at q; omega⟩
  ·rw [e6]
   have := q2 (Plain.env tblK (gE 0))
   rw [this]
   simp [eH, denH, denL, It.den, den0, e5]
  ·rw [e8]
   have := p2 (Plain.env tblK (gE 0))
   rw [this]
   simp [eH, denH, denL, It.den, den0, e5]
  ·rw [wrap64 (x := (j : Int) + 1) (by omega) (by omega)]; show denF _ _ = denF _ _; kernel_rfl
  ·simp [denH, denL, It.den, den0, e5]
  ·rw [← eH, tk2, eg2]
   have := LsT.mk' (w := 2) (H := HH) (J := J3) (R := [some ⟨.fix, e5 x⟩, some ⟨.fix, [.int .i64 x.a, .int .i64 x.b]⟩]) (rows := (nowOf (l.take j)).map e2 ++ [e2 ⟨x.a, x.b⟩]) (fun r hr => by
    rw [← tk2] at hr; obtain ⟨z, _, rfl⟩ := List.mem_map.1 hr; rfl) (by simp) (j := J2.length + 2) (by simp; omega) [some ⟨.fix, [.int .i64 x.c]⟩, g1]
   rw [List.length_append, l2] at this
   exact this
  ·rw [← eH, tk1]
   have := LsT.mk' (w := 1) (H := HH) (J := J3) (R := [some ⟨.fix, e5 x⟩, some ⟨.fix, [.int .i64 x.a, .int .i64 x.b]⟩, g2, some ⟨.fix, [.int .i64 x.c]⟩]) (rows := (lostOf (l.take j)).map ir ++ [ir x.c]) (fun r hr => by
    rw [← tk1] at hr; obtain ⟨z, _, rfl⟩ := List.mem_map.1 hr; rfl) (by simp) (j := J3.length + 4) (by simp) []
   rw [List.length_append, l1, ← eg1] at this
   simpa using this
 ·have hil : j = l.length := by omega
  have tr := tree12u ta ra la na oa none none a1 tn ct rn rc l.length lc nc oc 0 0 c1 j at_ i ⟨0, 0, 0, 0, false⟩ 0 0 A B J J J [] []
  refine Wp.tree (cE_ok 0) tr ⟨by kernel_rfl, by kernel_rfl⟩ ⟨fun q => by simp at q; omega, fun _ => end_exit ⟨J, na, oa, nc, oc, rfl, ?_, rfl, ?_, ?_⟩⟩
  ·rw [hil]; show denF _ _ = denF _ _; kernel_rfl
  ·rw [hil, List.take_length] at h2; exact h2
  ·rw [hil, List.take_length] at h1; exact h1
end L
end PR
end Go.Proofs.Ytgdojnamjkhknaa
