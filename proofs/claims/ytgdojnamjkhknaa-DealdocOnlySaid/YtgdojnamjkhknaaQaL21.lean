/-
  The law DealdocOnly: from the bytes on.
-/
import Derived.Test.YtgdojnamjkhknaaQaDp
import Derived.Test.YtgdojnamjkhknaaQaSamA
import Derived.Test.YtgdojnamjkhknaaQaRm
import Derived.Test.YtgdojnamjkhknaaQaK7
import Derived.Test.YtgdojnamjkhknaaQaLk
import Derived.Test.YtgdojnamjkhknaaQaClDealdocRuns
namespace Go.Proofs.Ytgdojnamjkhknaa
open Go.Am
set_option linter.all false
set_option maxRecDepth 100000
namespace DQ
def sRuns : List Value → Option (Bool × Value)
 | [] => some (true, .bool true)
 | _ => none
theorem runs_ok : ∀ args v, sRuns args = some (true, v) → args.all (belowV 0) = true ∧ belowV 0 v = true ∧ Sim Try.prog 19 args [] fun v1 _ => v1 = v := fun args v e => by
 unfold sRuns at e
 split at e
 ·cases e; exact ⟨rfl, rfl, ClDealdocRuns.sim.mono fun _ _ q => q.1⟩
 ·cases e
abbrev tbl : Plain := [(19, sRuns), (30, sWithin)]
theorem tbl_ok : PlainOk Try.prog tbl := .cons runs_ok (.cons (within_ok mixed st30) .nil)
end DQ
namespace T21
open DQ
open D (DV DlW dVal preD preD_u rightB)
open DE (dB dZ dX dD encD)
open DU (decD dv0)
open WI (okI)
noncomputable def gK : Env := fun f => match f with
 | 27 => smry (preSame 1 br) resSame
 | 41 => runE (Plain.env K.tblK (K.E1.gE 0)) K.E1.il41
 | 44 => smry K.pre44 fun _ h => (.bool true, h)
 | 65 => smry R65.pre R65.res
 | 66 => smry T66.pre T66.res
 | 67 => smry preD fun d h => (freshV h ((encD d).map br), h ++ freshX 1 ((encD d).map br))
 | 68 => runE (Plain.env [] (DU.gE 0)) DU.il68
 | _ => fun _ _ => none
theorem gK_ok : EnvOk Try.prog gK := fun f => by
 unfold gK
 split
 ·exact S27.sim
 ·exact Summ.runE mixed (K.E1.gE_ok 0) (K.E1.gE_q 0) K.E1.st41
 ·exact K.sim44
 ·exact R65.summ
 ·exact T66.summ
 ·exact DE.E67.summ
 ·exact DU.sum68
 ·exact fun args h v h' e => by cases e
theorem gK_q : QuietEnv qt gK := fun f args h v h' hf e => by cases hf
noncomputable abbrev gE (k : Nat) : Env := inE tbl [] k gK
noncomputable abbrev cE (k : Nat) : CallS := callS tbl [] gK 100 k
theorem gE_q (k : Nat) : QuietEnv qt (Plain.env tbl (gE k)) := Plain.quiet (inE_quiet gK_q (fun f F h => by cases h) k)
theorem gE_ok (k : Nat) : EnvOk Try.prog (Plain.env tbl (gE k)) := Plain.ok tbl_ok (inE_ok (qt := qt) mixed tbl_ok .nil (fun f F h => by cases h) gK_ok gK_q k)
theorem cE_ok (k : Nat) : CallOk (Plain.env tbl (gE k)) (cE k) := callS_ok k
theorem call {f : Nat} {args : List Value} {h : Heap} {r : Value × Heap} (ht : tbl.find f args = none) (e : gK f args h = some r) : opA (Plain.env tbl (gE 0)) (.call f (args.map .const)) [] h = some r := opA_call ht e
def il21 : FnIL := ⟨115, [.tmp 10], .seq (.reg [ oT 5 (.box (.tmp 0)), oT 10 (.mov (.const (.bool false)))]) (.seq (.reg [ oT 16 (.mkrow [] 0 []), oT 17 (.load (.tmp 5) (some 20)), oT 18 (.call 41 [(.tmp 17)]), oT 19 (.call 67 [(.tmp 18)]), oT 20 (.append 1 1 (.tmp 16) (.tmp 19)), oT 11 (.mov (.tmp 20))]) (.seq (.seq (.reg [ oT 21 (.mov (.tmp 11)), oT 22 (.len (.tmp 21)), oT 23 (.bin .eql (.tmp 22) (kI 0))]) (.ite (.tmp 23) (.seq (.reg [ oT 10 (.mov (.const (.bool false)))]) (.ret)) (.skip))) (.seq (.reg [ oT 24 (.mov (.tmp 2)), oT 25 (.mov (.tmp 11)), oT 26 (.len (.tmp 25)), oT 27 (.bin .sub (.tmp 26) (kI 1)), oT 28 (.call 30 [(.tmp 24), (kI 0), (.tmp 27)]), oT 12 (.mov (.tmp 28))]) (.seq (.seq (.reg [ oT 29 (.mov (.tmp 4)), oT 30 (.call 30 [(.tmp 29), (kI 0), (kI 4)])]) (.block 0 (.seq (.reg [ oT 37 (.bin .eql (.tmp 30) (kI 0)), oT 36 (.mov (.tmp 37))]) (.ite (.tmp 36) (.reg [ oT 38 (.mov (.tmp 11)), oT 39 (.mov (.tmp 12)), oT 40 (.iadr 1 none (.tmp 38) (.tmp 39)), oT 41 (.load (.tmp 40) none), oT 42 (.mov (.tmp 3)), oT 43 (.bin .xor (.tmp 41) (.tmp 42)), oT 44 (.iadr 1 none (.tmp 38) (.tmp 39)), oN (.store (.tmp 44) (.tmp 43) 1)]) (.seq (.reg [ oT 46 (.bin .eql (.tmp 30) (kI 1)), oT 45 (.mov (.tmp 46))]) (.ite (.tmp 45) (.reg [ oT 47 (.mov (.tmp 11)), oT 48 (.mov (.tmp 12)), oT 49 (.slice 1 (.tmp 47) none (some (.tmp 48)) none), oT 11 (.mov (.tmp 49))]) (.seq (.reg [ oT 51 (.bin .eql (.tmp 30) (kI 2)), oT 50 (.mov (.tmp 51))]) (.ite (.tmp 50) (.reg [ oT 52 (.mov (.tmp 11)), oT 53 (.mov (.tmp 1)), oT 54 (.mov (.tmp 1)), oT 55 (.len (.tmp 54)), oT 56 (.mn (.tmp 55) (kI 20)), oT 57 (.slice 1 (.tmp 53) none (some (.tmp 56)) none), oT 58 (.append 1 1 (.tmp 52) (.tmp 57)), oT 11 (.mov (.tmp 58))]) (.seq (.reg [ oT 60 (.bin .eql (.tmp 30) (kI 3)), oT 59 (.mov (.tmp 60))]) (.ite (.tmp 59) (.reg [ oT 61 (.mkrow [] 0 []), oT 62 (.mov (.tmp 1)), oT 63 (.mov (.tmp 1)), oT 64 (.len (.tmp 63)), oT 65 (.mn (.tmp 64) (kI 300)), oT 66 (.slice 1 (.tmp 62) none (some (.tmp 65)) none), oT 67 (.append 1 1 (.tmp 61) (.tmp 66)), oT 11 (.mov (.tmp 67))]) (.reg [ oT 31 (.mov (.tmp 11)), oT 32 (.mov (.tmp 12)), oT 33 (.bin .quo (.tmp 32) (kI 8)), oT 34 (.bin .mul (kI 8) (.tmp 33)), oT 35 (.slice 1 (.tmp 31) none (some (.tmp 34)) none), oT 11 (.mov (.tmp 35))]))))))))))) (.seq (.reg [ oT 68 (.mov (.tmp 11)), oT 69 (.call 65 [(.tmp 68), (.const (.int .u8 7))]), oT 13 (.mov (.tmp 69))]) (.seq (.reg [ oT 71 (.mov (.tmp 13)), oT 72 (.mov (.tmp 11)), oT 73 (.len (.tmp 72)), oT 74 (.slice 1 (.tmp 71) none (some (.tmp 73)) none), oT 75 (.call 68 [(.tmp 74)]), oT 70 (.mov (.tmp 75)), oT 76 (.ext 0 (.tmp 70)), oT 77 (.ext 1 (.tmp 70)), oT 14 (.alloc zD), oN (.store (.tmp 14) (.tmp 76) 18), oT 15 (.mov (.tmp 77))]) (.seq (.seq (.reg [ oT 78 (.mov (.tmp 13)), oT 79 (.mov (.tmp 11)), oT 80 (.call 66 [(.tmp 78), (.tmp 79), (.const (.int .u8 7))]), oT 81 (.un .not (.tmp 80))]) (.ite (.tmp 81) (.seq (.reg [ oT 10 (.mov (.const (.bool false)))]) (.ret)) (.skip))) (.seq (.seq (.reg [ oT 82 (.mov (.tmp 15)), oT 83 (.bin .eql (.tmp 82) (kI 0))]) (.ite (.tmp 83) (.seq (.reg [ oT 84 (.load (.tmp 14) (some 18)), oT 85 (.call 67 [(.tmp 84)]), oT 86 (.mov (.tmp 11)), oT 87 (.call 27 [(.tmp 85), (.tmp 86)]), oT 88 (.mov (.tmp 87)), ⟨(some 89), (some (88, true)), .call 19 []⟩, oT 90 (.pick (.tmp 88) (.tmp 89) (.const (.bool false))), oT 10 (.mov (.tmp 90))]) (.ret)) (.skip))) (.seq (.reg [ oT 91 (.mov (.tmp 15)), oT 92 (.bin .eql (.tmp 91) (kI 1)), oT 93 (.mov (.tmp 92)), ⟨(some 94), (some (93, false)), .mov (.tmp 15)⟩, ⟨(some 95), (some (93, false)), .bin .eql (.tmp 94) (kI 2)⟩, oT 96 (.pick (.tmp 93) (.const (.bool true)) (.tmp 95)), oT 97 (.mov (.tmp 96)), ⟨(some 98), (some (97, true)), .mov (.tmp 11)⟩, ⟨(some 99), (some (97, true)), .len (.tmp 98)⟩, ⟨(some 100), (some (97, true)), .bin .and (.tmp 99) (kI 7)⟩, ⟨(some 101), (some (97, true)), .bin .eql (.tmp 100) (kI 0)⟩, ⟨(some 102), (some (97, true)), .mov (.tmp 101)⟩, ⟨(some 103), (some (102, false)), .mov (.tmp 15)⟩, ⟨(some 104), (some (102, false)), .bin .eql (.tmp 103) (kI 1)⟩, ⟨(some 105), (some (97, true)), .pick (.tmp 102) (.const (.bool true)) (.tmp 104)⟩, oT 106 (.pick (.tmp 97) (.tmp 105) (.const (.bool false))), oT 107 (.mov (.tmp 106)), ⟨(some 108), (some (107, true)), .load (.tmp 14) (some 18)⟩, ⟨(some 109), (some (107, true)), .build zD []⟩, ⟨(some 110), (some (107, true)), .call 44 [(.tmp 108), (.tmp 109)]⟩, oT 111 (.pick (.tmp 107) (.tmp 110) (.const (.bool false))), oT 112 (.mov (.tmp 111)), ⟨(some 113), (some (112, true)), .call 19 []⟩, oT 114 (.pick (.tmp 112) (.tmp 113) (.const (.bool false))), oT 10 (.mov (.tmp 114))]) (.ret))))))))))⟩
theorem st21 : stF Try.prog qt 21 = some il21 := by kernel_rfl
abbrev r21_0 : IL := il21.body
def c21_0 : IL := (splitS 3 r21_0).1
def r21_1 : IL := (splitS 3 r21_0).2
def c21_1 : IL := (splitS 0 r21_1).1
def r21_2 : IL := (splitS 0 r21_1).2
def hn21t0 (y mo ba fe re ta ad cu oc ic la lo ce : Int) (al an a0 a1 a2 : Option Addr) (nl cl nn cn n0 c0 n1 c1 n2 c2 : Nat) (ab a4 a5 : Option Addr) (a3 : Addr) (nb cb_ n3 c3 n4 c4 n5 c5 : Nat) (k7 : Int) (r : Bool) (G X1 X2 X3 X4 : Heap) : Hs := (.use 26000069 (rS (some a3) n3 c3) ⟨[], [.seg X1]⟩ (.use 17000074 (rS a4 n4 c4) ⟨[], []⟩ (.use 26000075 (.raw (.tuple ⟨[(.agg ⟨(vX al an a0 a1 a2 nl cl nn cn n0 c0 n1 c1 n2 c2 y mo ba fe re ta ad cu oc ic la lo ce)⟩), (.int .i64 0)]⟩)) ⟨[], [.seg X2]⟩ (.use 26000080 (sB true) ⟨[], []⟩ (.con (.con (.use 26000085 (rS a5 n5 c5) ⟨[], [.seg X3]⟩ (.use 26000087 (sB true) ⟨[], []⟩ (.con (.con .nil))))))))))
theorem tree21t0 (y mo ba fe re ta ad cu oc ic la lo ce : Int) (al an a0 a1 a2 : Option Addr) (nl cl nn cn n0 c0 n1 c1 n2 c2 : Nat) (ab a4 a5 : Option Addr) (a3 : Addr) (nb cb_ n3 c3 n4 c4 n5 c5 : Nat) (k7 : Int) (r : Bool) (G X1 X2 X3 X4 : Heap) : pieceS tbl (gE 0) (cE 0) 300 (resLv il21.res) r21_2 (hn21t0 y mo ba fe re ta ad cu oc ic la lo ce al an a0 a1 a2 nl cl nn cn n0 c0 n1 c1 n2 c2 ab a4 a5 a3 nb cb_ n3 c3 n4 c4 n5 c5 k7 r G X1 X2 X3 X4) (frS 115 [(10, (sB false)), (11, (rS ab nb cb_))]) [.seg G] =
(.claim (opA (Plain.env tbl (gE 0)) (.call 65 [(.const (.slice ab nb cb_)), (.const (.int .u8 7))]) [] (denH [.seg G]) = some ((.slice (some a3) n3 c3), denH [.seg G, .seg X1]))
 (.claim (opA (Plain.env tbl (gE 0)) (.slice 1 (.const (.slice (some a3) n3 c3)) none (some (kI (nb : Int))) none) [] (denH [.seg G, .seg X1]) = some ((.slice a4 n4 c4), denH [.seg G, .seg X1]))
 (.claim (opA (Plain.env tbl (gE 0)) (.call 68 [(.const (.slice a4 n4 c4))]) [] (denH [.seg G, .seg X1]) = some ((.tuple ⟨[(.agg ⟨(vX al an a0 a1 a2 nl cl nn cn n0 c0 n1 c1 n2 c2 y mo ba fe re ta ad cu oc ic la lo ce)⟩), (.int .i64 0)]⟩), denH [.seg G, .seg X1, .seg X2]))
 (.claim (opA (Plain.env tbl (gE 0)) (.call 66 [(.const (.slice (some a3) n3 c3)), (.const (.slice ab nb cb_)), (.const (.int .u8 7))]) [] (denH [.seg G, .seg X1, .seg X2, (dX al an a0 a1 a2 nl cl nn cn n0 c0 n1 c1 n2 c2 y mo ba fe re ta ad cu oc ic la lo ce)]) = some ((.bool true), denH [.seg G, .seg X1, .seg X2, (dX al an a0 a1 a2 nl cl nn cn n0 c0 n1 c1 n2 c2 y mo ba fe re ta ad cu oc ic la lo ce)]))
 (.claim (opA (Plain.env tbl (gE 0)) (.call 67 [(.const (.agg ⟨(vX al an a0 a1 a2 nl cl nn cn n0 c0 n1 c1 n2 c2 y mo ba fe re ta ad cu oc ic la lo ce)⟩))]) [] (denH [.seg G, .seg X1, .seg X2, (dX al an a0 a1 a2 nl cl nn cn n0 c0 n1 c1 n2 c2 y mo ba fe re ta ad cu oc ic la lo ce)]) = some ((.slice a5 n5 c5), denH [.seg G, .seg X1, .seg X2, (dX al an a0 a1 a2 nl cl nn cn n0 c0 n1 c1 n2 c2 y mo ba fe re ta ad cu oc ic la lo ce), .seg X3]))
 (.claim (opA (Plain.env tbl (gE 0)) (.call 27 [(.const (.slice a5 n5 c5)), (.const (.slice ab nb cb_))]) [] (denH [.seg G, .seg X1, .seg X2, (dX al an a0 a1 a2 nl cl nn cn n0 c0 n1 c1 n2 c2 y mo ba fe re ta ad cu oc ic la lo ce), .seg X3]) = some ((.bool true), denH [.seg G, .seg X1, .seg X2, (dX al an a0 a1 a2 nl cl nn cn n0 c0 n1 c1 n2 c2 y mo ba fe re ta ad cu oc ic la lo ce), .seg X3]))
 (.req true (.ret .ret (frS 115 [(10, (sB true))]) [.seg G, .seg X1, .seg X2, (dX al an a0 a1 a2 nl cl nn cn n0 c0 n1 c1 n2 c2 y mo ba fe re ta ad cu oc ic la lo ce), .seg X3])))))))) := by kernel_rfl
def hn21t1 (y mo ba fe re ta ad cu oc ic la lo ce : Int) (al an a0 a1 a2 : Option Addr) (nl cl nn cn n0 c0 n1 c1 n2 c2 : Nat) (ab a4 a5 : Option Addr) (a3 : Addr) (nb cb_ n3 c3 n4 c4 n5 c5 : Nat) (k7 : Int) (r : Bool) (G X1 X2 X3 X4 : Heap) : Hs := (.use 26000069 (rS (some a3) n3 c3) ⟨[], [.seg X1]⟩ (.use 17000074 (rS a4 n4 c4) ⟨[], []⟩ (.use 26000075 (.raw (.tuple ⟨[(.agg ⟨(vX al an a0 a1 a2 nl cl nn cn n0 c0 n1 c1 n2 c2 y mo ba fe re ta ad cu oc ic la lo ce)⟩), (.int .i64 1)]⟩)) ⟨[], [.seg X2]⟩ (.use 26000080 (sB true) ⟨[], []⟩ (.con (.con (.con (.con (.con (.con (.con (.con (.pur 10000100 (.int .i64 k7) (.con (.pur 10000101 (.bool r) (.con (.join 3 (.con (.con (.con (.con .nil)))) (.con (.con (.con (.con .nil)))) (.con (.yes (.con (.con (.use 26000110 (sB true) ⟨[], []⟩ (.con (.con (.con .nil)))))))))))))))))))))))))
theorem tree21t1 (y mo ba fe re ta ad cu oc ic la lo ce : Int) (al an a0 a1 a2 : Option Addr) (nl cl nn cn n0 c0 n1 c1 n2 c2 : Nat) (ab a4 a5 : Option Addr) (a3 : Addr) (nb cb_ n3 c3 n4 c4 n5 c5 : Nat) (k7 : Int) (r : Bool) (G X1 X2 X3 X4 : Heap) : pieceS tbl (gE 0) (cE 0) 300 (resLv il21.res) r21_2 (hn21t1 y mo ba fe re ta ad cu oc ic la lo ce al an a0 a1 a2 nl cl nn cn n0 c0 n1 c1 n2 c2 ab a4 a5 a3 nb cb_ n3 c3 n4 c4 n5 c5 k7 r G X1 X2 X3 X4) (frS 115 [(10, (sB false)), (11, (rS ab nb cb_))]) [.seg G] =
(.claim (opA (Plain.env tbl (gE 0)) (.call 65 [(.const (.slice ab nb cb_)), (.const (.int .u8 7))]) [] (denH [.seg G]) = some ((.slice (some a3) n3 c3), denH [.seg G, .seg X1]))
 (.claim (opA (Plain.env tbl (gE 0)) (.slice 1 (.const (.slice (some a3) n3 c3)) none (some (kI (nb : Int))) none) [] (denH [.seg G, .seg X1]) = some ((.slice a4 n4 c4), denH [.seg G, .seg X1]))
 (.claim (opA (Plain.env tbl (gE 0)) (.call 68 [(.const (.slice a4 n4 c4))]) [] (denH [.seg G, .seg X1]) = some ((.tuple ⟨[(.agg ⟨(vX al an a0 a1 a2 nl cl nn cn n0 c0 n1 c1 n2 c2 y mo ba fe re ta ad cu oc ic la lo ce)⟩), (.int .i64 1)]⟩), denH [.seg G, .seg X1, .seg X2]))
 (.claim (opA (Plain.env tbl (gE 0)) (.call 66 [(.const (.slice (some a3) n3 c3)), (.const (.slice ab nb cb_)), (.const (.int .u8 7))]) [] (denH [.seg G, .seg X1, .seg X2, (dX al an a0 a1 a2 nl cl nn cn n0 c0 n1 c1 n2 c2 y mo ba fe re ta ad cu oc ic la lo ce)]) = some ((.bool true), denH [.seg G, .seg X1, .seg X2, (dX al an a0 a1 a2 nl cl nn cn n0 c0 n1 c1 n2 c2 y mo ba fe re ta ad cu oc ic la lo ce)]))
 (.claim (opA (Plain.env tbl (gE 0)) (.bin .and (kI (nb : Int)) (kI 7)) [] [] = some ((.int .i64 k7), []))
 (.claim (opA (Plain.env tbl (gE 0)) (.bin .eql (kI k7) (kI 0)) [] [] = some ((.bool r), []))
 (.req (bif r then true else true) (.req (bif r then true else true) (.claim (opA (Plain.env tbl (gE 0)) (.call 44 [(.const (.agg ⟨(vX al an a0 a1 a2 nl cl nn cn n0 c0 n1 c1 n2 c2 y mo ba fe re ta ad cu oc ic la lo ce)⟩)), (.const (.agg ⟨zD⟩))]) [] (denH [.seg G, .seg X1, .seg X2, (dX al an a0 a1 a2 nl cl nn cn n0 c0 n1 c1 n2 c2 y mo ba fe re ta ad cu oc ic la lo ce)]) = some ((.bool true), denH [.seg G, .seg X1, .seg X2, (dX al an a0 a1 a2 nl cl nn cn n0 c0 n1 c1 n2 c2 y mo ba fe re ta ad cu oc ic la lo ce)]))
 (.req true (.ret .ret (frS 115 [(10, (sB true))]) [.seg G, .seg X1, .seg X2, (dX al an a0 a1 a2 nl cl nn cn n0 c0 n1 c1 n2 c2 y mo ba fe re ta ad cu oc ic la lo ce)]))))))))))) := by kernel_rfl
def hn21t2 (y mo ba fe re ta ad cu oc ic la lo ce : Int) (al an a0 a1 a2 : Option Addr) (nl cl nn cn n0 c0 n1 c1 n2 c2 : Nat) (ab a4 a5 : Option Addr) (a3 : Addr) (nb cb_ n3 c3 n4 c4 n5 c5 : Nat) (k7 : Int) (r : Bool) (G X1 X2 X3 X4 : Heap) : Hs := (.use 26000069 (rS (some a3) n3 c3) ⟨[], [.seg X1]⟩ (.use 17000074 (rS a4 n4 c4) ⟨[], []⟩ (.use 26000075 (.raw (.tuple ⟨[(.agg ⟨(vX al an a0 a1 a2 nl cl nn cn n0 c0 n1 c1 n2 c2 y mo ba fe re ta ad cu oc ic la lo ce)⟩), (.int .i64 2)]⟩)) ⟨[], [.seg X2]⟩ (.use 26000080 (sB true) ⟨[], []⟩ (.con (.con (.con (.con (.con (.con (.con (.con (.pur 10000100 (.int .i64 k7) (.con (.pur 10000101 (.bool true) (.con (.con (.con (.con (.con (.con (.con (.con (.con (.use 26000110 (sB true) ⟨[], []⟩ (.con (.con (.con .nil))))))))))))))))))))))))))))
theorem tree21t2 (y mo ba fe re ta ad cu oc ic la lo ce : Int) (al an a0 a1 a2 : Option Addr) (nl cl nn cn n0 c0 n1 c1 n2 c2 : Nat) (ab a4 a5 : Option Addr) (a3 : Addr) (nb cb_ n3 c3 n4 c4 n5 c5 : Nat) (k7 : Int) (r : Bool) (G X1 X2 X3 X4 : Heap) : pieceS tbl (gE 0) (cE 0) 300 (resLv il21.res) r21_2 (hn21t2 y mo ba fe re ta ad cu oc ic la lo ce al an a0 a1 a2 nl cl nn cn n0 c0 n1 c1 n2 c2 ab a4 a5 a3 nb cb_ n3 c3 n4 c4 n5 c5 k7 r G X1 X2 X3 X4) (frS 115 [(10, (sB false)), (11, (rS ab nb cb_))]) [.seg G] =
(.claim (opA (Plain.env tbl (gE 0)) (.call 65 [(.const (.slice ab nb cb_)), (.const (.int .u8 7))]) [] (denH [.seg G]) = some ((.slice (some a3) n3 c3), denH [.seg G, .seg X1]))
 (.claim (opA (Plain.env tbl (gE 0)) (.slice 1 (.const (.slice (some a3) n3 c3)) none (some (kI (nb : Int))) none) [] (denH [.seg G, .seg X1]) = some ((.slice a4 n4 c4), denH [.seg G, .seg X1]))
 (.claim (opA (Plain.env tbl (gE 0)) (.call 68 [(.const (.slice a4 n4 c4))]) [] (denH [.seg G, .seg X1]) = some ((.tuple ⟨[(.agg ⟨(vX al an a0 a1 a2 nl cl nn cn n0 c0 n1 c1 n2 c2 y mo ba fe re ta ad cu oc ic la lo ce)⟩), (.int .i64 2)]⟩), denH [.seg G, .seg X1, .seg X2]))
 (.claim (opA (Plain.env tbl (gE 0)) (.call 66 [(.const (.slice (some a3) n3 c3)), (.const (.slice ab nb cb_)), (.const (.int .u8 7))]) [] (denH [.seg G, .seg X1, .seg X2, (dX al an a0 a1 a2 nl cl nn cn n0 c0 n1 c1 n2 c2 y mo ba fe re ta ad cu oc ic la lo ce)]) = some ((.bool true), denH [.seg G, .seg X1, .seg X2, (dX al an a0 a1 a2 nl cl nn cn n0 c0 n1 c1 n2 c2 y mo ba fe re ta ad cu oc ic la lo ce)]))
 (.claim (opA (Plain.env tbl (gE 0)) (.bin .and (kI (nb : Int)) (kI 7)) [] [] = some ((.int .i64 k7), []))
 (.claim (opA (Plain.env tbl (gE 0)) (.bin .eql (kI k7) (kI 0)) [] [] = some ((.bool true), []))
 (.claim (opA (Plain.env tbl (gE 0)) (.call 44 [(.const (.agg ⟨(vX al an a0 a1 a2 nl cl nn cn n0 c0 n1 c1 n2 c2 y mo ba fe re ta ad cu oc ic la lo ce)⟩)), (.const (.agg ⟨zD⟩))]) [] (denH [.seg G, .seg X1, .seg X2, (dX al an a0 a1 a2 nl cl nn cn n0 c0 n1 c1 n2 c2 y mo ba fe re ta ad cu oc ic la lo ce)]) = some ((.bool true), denH [.seg G, .seg X1, .seg X2, (dX al an a0 a1 a2 nl cl nn cn n0 c0 n1 c1 n2 c2 y mo ba fe re ta ad cu oc ic la lo ce)]))
 (.req true (.ret .ret (frS 115 [(10, (sB true))]) [.seg G, .seg X1, .seg X2, (dX al an a0 a1 a2 nl cl nn cn n0 c0 n1 c1 n2 c2 y mo ba fe re ta ad cu oc ic la lo ce)]))))))))) := by kernel_rfl
theorem and7 (n : Nat) (hn : n < 4611686018427387904) (Γ : Env) : opA Γ (.bin .and (kI n) (kI 7)) [] [] = some (.int .i64 (n % 8 : Nat), []) := by
 simp only [opA, pureA, ev, binA, intBin, if_true]
 congr 3
 rw [BitVec.toNat_and, BitVec.toNat_ofInt]
 rw [show ((n : Int) % ((2 ^ IntKind.i64.bits : Nat) : Int)).toNat = n from by show ((n : Int) % 18446744073709551616).toNat = n; omega, show (BitVec.ofInt IntKind.i64.bits 7).toNat = 2 ^ 3 - 1 from rfl, Nat.and_two_pow_sub_one_eq_mod]
 exact wrapN (by omega)
theorem eql_ok (Γ : Env) (x y : Int) (q : Bool) (h : q = decide (x = y)) : opA Γ (.bin .eql (kI x) (kI y)) [] [] = some (.bool q, []) := by
 simp only [opA, pureA, ev, binA, intBin, if_true]
 subst h
 congr 3
theorem dec_cases (bs : List Int) : (decD bs).2 = 0 ∨ decD bs = (dv0, 1) ∨ (decD bs = (dv0, 2) ∧ okI bs = true) := by
 unfold decD
 cases ok : okI bs with
 | false => exact .inr (.inl rfl)
 | true =>
  rw [if_pos rfl]
  split
  ·split
   ·exact .inl rfl
   ·exact .inr (.inr ⟨rfl, rfl⟩)
  ·exact .inr (.inl rfl)
theorem use68 {I : SH} (hI : I.all (It.bnd I.length) = true) {s : Value} {bs : List Int} (hs : RowsW 1 (denH I) s (bs.map br)) (hb : bs.length ≤ 1000000) :
  ∃ v X, runE (Plain.env [] (DU.gE 0)) DU.il68 [s] (denH I) = some (.tuple ⟨[v, .int .i64 (decD bs).2]⟩, denH (I ++ [.seg X])) ∧ DlW (denH (I ++ [.seg X])) v (decD bs).1 := by
 obtain ⟨v, X, r, hd⟩ := DU.run68 hs hb
 exact ⟨v, X, by rw [denH_snoc I hI]; exact r, by rw [denH_snoc I hI]; exact hd⟩
theorem sm0 : dv0.sm := ⟨by show (0 : Nat) ≤ _; decide, by show (0 : Nat) ≤ _; decide, by show (0 : Nat) ≤ _; decide, by show (0 : Nat) ≤ _; decide, by show (0 : Nat) ≤ _; decide⟩
theorem DlW.up {I : SH} {v : Value} {d : DV} (h : DlW (denH I) v d) (hI : I.all (It.bnd I.length) = true) (X : SH) : DlW (denH (I ++ X)) v d := by
 obtain ⟨R, e⟩ := denH_up hI X
 rw [e]; exact DU.DlW.app h R
theorem right_sm {d : DV} (h : rightB d = true) : d.sm := by
 have lm := DE.right_lim h
 exact ⟨Nat.le_trans lm.l (by decide), Nat.le_trans lm.n (by decide), Nat.le_trans lm.s0 (by decide), Nat.le_trans lm.s1 (by decide), Nat.le_trans lm.s2 (by decide)⟩
theorem tail {G : Heap} {ab : Option Addr} {cb_ : Nat} {bs : List Int} (hb : RowsW 1 G (.slice ab bs.length cb_) (bs.map br)) (hi : ∀ x ∈ bs, InB x) (hn : bs.length ≤ 100000) :
  Wp (Plain.env tbl (gE 0)) (resLv il21.res) r21_2 (denF [.seg G] (frS 115 [(10, (sB false)), (11, (rS ab bs.length cb_))])) (denH [.seg G]) fun e s h' => (e = .normal ∨ e = .ret) ∧ ∃ v, resA s h' il21.res = some v ∧ v = .bool true := by
 have h0 : RowsW 1 (denH [.seg G]) (.slice ab bs.length cb_) (bs.map br) := by simpa [denH, denL, It.den] using hb
 obtain ⟨a3, X1, g1, r1⟩ := R65.use (I := [.seg G]) rfl (x := 7) h0 (by omega)
 have r1' : RowsW 1 (denH [.seg G, .seg X1]) (.slice (some a3) (bs ++ List.replicate 80 7).length (bs.length + 80)) ((bs ++ List.replicate 80 7).map br) := by
  rw [List.length_append, List.length_replicate]; exact r1
 obtain ⟨v4, t4, r4⟩ := r1'.cutM (lo := 0) (hi := bs.length) (by omega) (by simp) none (some (kI bs.length)) (.inl ⟨rfl, rfl⟩) (.inr rfl)
 rw [List.drop_zero, List.take_left] at r4
 rw [List.length_append, List.length_replicate] at t4
 obtain ⟨a4, c4, rfl⟩ := r4.slcM
 obtain ⟨dv, X2, g2, hd⟩ := use68 (I := [.seg G, .seg X1]) rfl r4 (by omega)
 obtain ⟨d, eD⟩ : ∃ d, d = (decD bs).1 := ⟨_, rfl⟩
 rw [← eD] at hd
 have hd' := hd
 obtain ⟨al, an, a0, a1, a2, cl, cn, c0, c1, c2, rfl, _⟩ := hd'
 have g3 := T66.call (r1.up rfl [.seg X2, dD d al an a0 a1 a2 cl cn c0 c1 c2]) (h0.up rfl [.seg X1, .seg X2, dD d al an a0 a1 a2 cl cn c0 c1 c2]) (by omega)
 have hd3 : DlW (denH [.seg G, .seg X1, .seg X2, dD d al an a0 a1 a2 cl cn c0 c1 c2]) (dVal al an a0 a1 a2 d.l.length cl d.n.length cn d.s0.length c0 d.s1.length c1 d.s2.length c2 d) d := DlW.up hd rfl [dD d al an a0 a1 a2 cl cn c0 c1 c2]
 rcases dec_cases bs with q | q | ⟨q, ok⟩
 ·obtain ⟨e1, rt⟩ := DP.decD_enc hi q
  rw [← eD] at e1 rt
  rw [q] at g2
  obtain ⟨a5, c5, X3, g4, r5⟩ := DE.E67.use (I := [.seg G, .seg X1, .seg X2, dD d al an a0 a1 a2 cl cn c0 c1 c2]) rfl hd3 (right_sm rt)
  rw [e1] at g4 r5
  have g5 := callSame br_1 r5 (h0.up rfl [.seg X1, .seg X2, dD d al an a0 a1 a2 cl cn c0 c1 c2, .seg X3]) (by omega)
  rw [same_t rfl] at g5
  exact Wp.tree (cE_ok 0) (tree21t0 d.y d.mo d.ba d.fe d.re d.ta d.ad d.cu d.oc d.ic d.la d.lo d.ce al an a0 a1 a2 d.l.length cl d.n.length cn d.s0.length c0 d.s1.length c1 d.s2.length c2 ab a4 a5 a3 bs.length cb_ (bs.length + 80) (bs.length + 80) bs.length c4 bs.length c5 0 false G X1 X2 X3 []) ⟨rfl, rfl⟩ ⟨call (args := [_, _]) rfl g1, t4 _, call (args := [_]) rfl g2, call (args := [_, _, _]) rfl g3, call (args := [_]) rfl g4, call (args := [_, _]) rfl g5, rfl, .inr rfl, _, rfl, rfl⟩
 ·have d0 : d = dv0 := by rw [eD, q]
  rw [q] at g2
  have g6 := K.call44 (d := d) hd3 (b := dVal none none none none none 0 0 0 0 0 0 0 0 0 0 dv0) (by rw [d0]; exact DU.nil0 _) (by rw [d0]; exact sm0)
  exact Wp.tree (cE_ok 0) (tree21t1 d.y d.mo d.ba d.fe d.re d.ta d.ad d.cu d.oc d.ic d.la d.lo d.ce al an a0 a1 a2 d.l.length cl d.n.length cn d.s0.length c0 d.s1.length c1 d.s2.length c2 ab a4 none a3 bs.length cb_ (bs.length + 80) (bs.length + 80) bs.length c4 0 0 (bs.length % 8 : Nat) (decide (((bs.length % 8 : Nat) : Int) = 0)) G X1 X2 [] []) ⟨rfl, rfl⟩ ⟨call (args := [_, _]) rfl g1, t4 _, call (args := [_]) rfl g2, call (args := [_, _, _]) rfl g3, and7 _ (by omega) _, eql_ok _ _ _ _ rfl, bif_tt _, bif_tt _, call (args := [_, _]) rfl g6, rfl, .inr rfl, _, rfl, rfl⟩
 ·have d0 : d = dv0 := by rw [eD, q]
  rw [q] at g2
  have g6 := K.call44 (d := d) hd3 (b := dVal none none none none none 0 0 0 0 0 0 0 0 0 0 dv0) (by rw [d0]; exact DU.nil0 _) (by rw [d0]; exact sm0)
  have h8 : bs.length % 8 = 0 := by unfold okI at ok; simpa using ok
  exact Wp.tree (cE_ok 0) (tree21t2 d.y d.mo d.ba d.fe d.re d.ta d.ad d.cu d.oc d.ic d.la d.lo d.ce al an a0 a1 a2 d.l.length cl d.n.length cn d.s0.length c0 d.s1.length c1 d.s2.length c2 ab a4 none a3 bs.length cb_ (bs.length + 80) (bs.length + 80) bs.length c4 0 0 (bs.length % 8 : Nat) false G X1 X2 [] []) ⟨rfl, rfl⟩ ⟨call (args := [_, _]) rfl g1, t4 _, call (args := [_]) rfl g2, call (args := [_, _, _]) rfl g3, and7 _ (by omega) _, eql_ok _ _ _ _ (by rw [h8]; rfl), call (args := [_, _]) rfl g6, rfl, .inr rfl, _, rfl, rfl⟩
end T21
end Go.Proofs.Ytgdojnamjkhknaa
