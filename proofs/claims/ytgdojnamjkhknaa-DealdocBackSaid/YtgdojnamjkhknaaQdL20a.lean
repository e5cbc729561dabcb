/-
  The law DealdocBack: any numbers, encoded and decoded.
-/
import Derived.Test.YtgdojnamjkhknaaQdDz
import Derived.Test.YtgdojnamjkhknaaQdDf
import Derived.Test.YtgdojnamjkhknaaQdWs
import Derived.Test.YtgdojnamjkhknaaQdD7
import Derived.Test.YtgdojnamjkhknaaQdK8
import Derived.Test.YtgdojnamjkhknaaQdLk
import Derived.Test.YtgdojnamjkhknaaQdSamA
import Derived.Test.YtgdojnamjkhknaaQdClDealdocRuns
namespace Go.Proofs.Ytgdojnamjkhknaa
open Go.Am
set_option linter.all false
set_option maxRecDepth 100000
namespace DY
def sRuns : List Value → Option (Bool × Value)
 | [] => some (true, .bool true)
 | _ => none
theorem runs_ok : ∀ args v, sRuns args = some (true, v) → args.all (belowV 0) = true ∧ belowV 0 v = true ∧ Sim Try.prog 19 args [] fun v1 _ => v1 = v := fun args v e => by
 unfold sRuns at e
 split at e
 ·cases e; exact ⟨rfl, rfl, ClDealdocRuns.sim.mono fun _ _ q => q.1⟩
 ·cases e
abbrev tbl : Plain := [(19, sRuns), (30, sWithin)]
theorem tbl_ok : PlainOk Try.prog tbl := .cons runs_ok (.cons (within_ok mixed st30) .nil)
end DY
namespace T20
open DY
open K (kB)
open D (DV DlW dVal preD preD_u rightB)
open DE (dB dZ dX dD encD dealI)
open DU (decD dv0)
open DZ (DIn Bnd)
open WB (byt byt_len useB)
noncomputable def gK : Env := fun f => match f with
 | 27 => smry (preSame 1 br) resSame
 | 34 => smry WB.preB WB.resB
 | 41 => runE (Plain.env K.tblK (K.E1.gE 0)) K.E1.il41
 | 42 => smry preD fun d h => (.bool (rightB d), h)
 | 44 => smry K.pre44g K.res44g
 | 67 => smry preD fun d h => (freshV h ((encD d).map br), h ++ freshX 1 ((encD d).map br))
 | 68 => runE (Plain.env [] (DU.gE 0)) DU.il68
 | 69 => runE (Plain.env [] (WB.gE 0)) DE.E69.il69
 | _ => fun _ _ => none
theorem gK_ok : EnvOk Try.prog gK := fun f => by
 unfold gK
 split
 ·exact S27.sim
 ·exact WS.summ
 ·exact Summ.runE mixed (K.E1.gE_ok 0) (K.E1.gE_q 0) K.E1.st41
 ·exact D.V.sim42
 ·exact K.sim44g
 ·exact DE.E67.summ
 ·exact DU.sum68
 ·exact Summ.runE mixed (WB.gE_ok 0) (WB.gE_q 0) DE.E69.st69
 ·exact fun args h v h' e => by cases e
theorem gK_q : QuietEnv qt gK := fun f args h v h' hf e => by cases hf
noncomputable abbrev gE (k : Nat) : Env := inE tbl [] k gK
noncomputable abbrev cE (k : Nat) : CallS := callS tbl [] gK 100 k
theorem gE_q (k : Nat) : QuietEnv qt (Plain.env tbl (gE k)) := Plain.quiet (inE_quiet gK_q (fun f F h => by cases h) k)
theorem gE_ok (k : Nat) : EnvOk Try.prog (Plain.env tbl (gE k)) := Plain.ok tbl_ok (inE_ok (qt := qt) mixed tbl_ok .nil (fun f F h => by cases h) gK_ok gK_q k)
theorem cE_ok (k : Nat) : CallOk (Plain.env tbl (gE k)) (cE k) := callS_ok k
theorem call {f : Nat} {args : List Value} {h : Heap} {r : Value × Heap} (ht : tbl.find f args = none) (e : gK f args h = some r) : opA (Plain.env tbl (gE 0)) (.call f (args.map .const)) [] h = some r := opA_call ht e
def il20 : FnIL := ⟨136, [.tmp 6], .seq (.reg [ oT 3 (.box (.tmp 0)), oT 4 (.box (.tmp 1)), oT 5 (.box (.tmp 2)), oT 6 (.mov (.const (.bool false)))]) (.seq (.dreg [ oT 17 (.load (.tmp 3) (some 20)), oT 18 (.call 41 [(.tmp 17)]), oT 19 (.load (.tmp 4) (some 20)), oT 20 (.call 41 [(.tmp 19)]), oT 7 (.alloc zD), oT 8 (.alloc zD), oN (.store (.tmp 7) (.tmp 18) 18), oN (.store (.tmp 8) (.tmp 20) 18)] [(2, 1)]) (.seq (.dreg [ oT 21 (.load (.tmp 7) (some 18)), oT 22 (.call 67 [(.tmp 21)]), oT 23 (.load (.tmp 8) (some 18)), oT 24 (.call 67 [(.tmp 23)]), oT 9 (.mov (.tmp 22)), oT 10 (.mov (.tmp 24))] [(2, 1)]) (.seq (.reg [ oT 26 (.mov (.tmp 9)), oT 27 (.call 68 [(.tmp 26)]), oT 25 (.mov (.tmp 27)), oT 28 (.ext 0 (.tmp 25)), oT 29 (.ext 1 (.tmp 25)), oT 11 (.alloc zD), oN (.store (.tmp 11) (.tmp 28) 18), oT 12 (.mov (.tmp 29))]) (.seq (.seq (.dreg [ oT 30 (.mov (.tmp 12)), oT 31 (.bin .neq (.tmp 30) (kI 0)), oT 32 (.mov (.tmp 31)), ⟨(some 33), (some (32, false)), .load (.tmp 11) (some 18)⟩, ⟨(some 34), (some (32, false)), .load (.tmp 7) (some 18)⟩, ⟨(some 35), (some (32, false)), .call 44 [(.tmp 33), (.tmp 34)]⟩, ⟨(some 36), (some (32, false)), .un .not (.tmp 35)⟩, oT 37 (.pick (.tmp 32) (.const (.bool true)) (.tmp 36)), oT 38 (.mov (.tmp 37)), ⟨(some 39), (some (38, false)), .mov (.tmp 9)⟩, ⟨(some 40), (some (38, false)), .mov (.tmp 10)⟩, ⟨(some 41), (some (38, false)), .call 27 [(.tmp 39), (.tmp 40)]⟩, ⟨(some 42), (some (38, false)), .load (.tmp 7) (some 18)⟩, ⟨(some 43), (some (38, false)), .load (.tmp 8) (some 18)⟩, ⟨(some 44), (some (38, false)), .call 44 [(.tmp 42), (.tmp 43)]⟩, ⟨(some 45), (some (38, false)), .eqv true .bool (.tmp 41) (.tmp 44)⟩, oT 46 (.pick (.tmp 38) (.const (.bool true)) (.tmp 45)), oT 47 (.mov (.tmp 46)), ⟨(some 48), (some (47, false)), .mov (.tmp 9)⟩, ⟨(some 49), (some (47, false)), .load (.tmp 7) (some 18)⟩, ⟨(some 50), (some (47, false)), .call 69 [(.tmp 49)]⟩, ⟨(some 51), (some (47, false)), .call 34 [(.tmp 50)]⟩, ⟨(some 52), (some (47, false)), .call 27 [(.tmp 48), (.tmp 51)]⟩, ⟨(some 53), (some (47, false)), .un .not (.tmp 52)⟩, oT 54 (.pick (.tmp 47) (.const (.bool true)) (.tmp 53))] [(12, 11), (13, 11)]) (.ite (.tmp 54) (.seq (.reg [ oT 6 (.mov (.const (.bool false)))]) (.ret)) (.skip))) (.seq (.dreg [ oT 55 (.fadr 3 (.tmp 5)), oT 56 (.load (.tmp 55) none), oT 57 (.fadr 3 (.tmp 5)), oT 58 (.load (.tmp 57) none), oT 59 (.len (.tmp 58)), oT 60 (.mn (.tmp 59) (kI 9)), oT 61 (.slice 2 (.tmp 56) none (some (.tmp 60)) none), oT 62 (.fadr 4 (.tmp 5)), oT 63 (.load (.tmp 62) none), oT 64 (.fadr 4 (.tmp 5)), oT 65 (.load (.tmp 64) none), oT 66 (.len (.tmp 65)), oT 67 (.mn (.tmp 66) (kI 9)), oT 68 (.slice 3 (.tmp 63) none (some (.tmp 67)) none), oT 69 (.fadr 3 (.tmp 5)), oN (.store (.tmp 69) (.tmp 61) 1), oT 70 (.fadr 4 (.tmp 5)), oN (.store (.tmp 70) (.tmp 68) 1)] [(13, 15)]) (.seq (.seq (.reg [ oT 71 (.mov (kI 0))]) (.block 0 (.loop (.seq (.reg [ oT 72 (.bin .lss (.tmp 71) (kI 3))]) (.seq (.ite (.tmp 72) (.skip) (.exit 0)) (.seq (.block 1 (.seq (.reg [ oT 73 (.mov (.tmp 71)), oT 13 (.mov (.tmp 73))]) (.dreg [ oT 74 (.mov (.tmp 13)), oT 75 (.mov (.tmp 13)), oT 76 (.fadr 15 (.tmp 5)), oT 77 (.iadr 1 (some 3) (.tmp 76) (.tmp 75)), oT 78 (.load (.tmp 77) none), oT 79 (.mov (.tmp 13)), oT 80 (.fadr 15 (.tmp 5)), oT 81 (.iadr 1 (some 3) (.tmp 80) (.tmp 79)), oT 82 (.load (.tmp 81) none), oT 83 (.len (.tmp 82)), oT 84 (.mn (.tmp 83) (kI 9)), oT 85 (.slice 2 (.tmp 78) none (some (.tmp 84)) none), oT 86 (.fadr 15 (.tmp 5)), oT 87 (.iadr 1 (some 3) (.tmp 86) (.tmp 74)), oN (.store (.tmp 87) (.tmp 85) 1)] []))) (.reg [ oT 88 (.bin .add (.tmp 71) (kI 1)), oT 71 (.mov (.tmp 88))]))))))) (.seq (.reg [ oT 89 (.load (.tmp 5) (some 18)), oT 90 (.call 67 [(.tmp 89)]), oT 14 (.mov (.tmp 90))]) (.seq (.seq (.reg [ oT 91 (.mov (.tmp 14)), oT 92 (.len (.tmp 91)), oT 93 (.bin .gtr (.tmp 92) (kI 0)), oT 94 (.load (.tmp 5) (some 18)), oT 95 (.call 42 [(.tmp 94)]), oT 96 (.eqv true .bool (.tmp 93) (.tmp 95))]) (.ite (.tmp 96) (.seq (.reg [ oT 6 (.mov (.const (.bool false)))]) (.ret)) (.skip))) (.seq (.reg [ oT 98 (.load (.tmp 5) (some 18)), oT 99 (.call 69 [(.tmp 98)]), oT 100 (.call 34 [(.tmp 99)]), oT 101 (.call 68 [(.tmp 100)]), oT 97 (.mov (.tmp 101)), oT 102 (.ext 0 (.tmp 97)), oT 103 (.ext 1 (.tmp 97)), oT 15 (.alloc zD), oN (.store (.tmp 15) (.tmp 102) 18), oT 16 (.mov (.tmp 103))]) (.seq (.seq (.reg [ oT 104 (.load (.tmp 5) (some 18)), oT 105 (.call 42 [(.tmp 104)])]) (.ite (.tmp 105) (.seq (.reg [ oT 106 (.mov (.tmp 16)), oT 107 (.bin .eql (.tmp 106) (kI 0)), oT 108 (.mov (.tmp 107)), ⟨(some 109), (some (108, true)), .load (.tmp 15) (some 18)⟩, ⟨(some 110), (some (108, true)), .load (.tmp 5) (some 18)⟩, ⟨(some 111), (some (108, true)), .call 44 [(.tmp 109), (.tmp 110)]⟩, oT 112 (.pick (.tmp 108) (.tmp 111) (.const (.bool false))), oT 113 (.mov (.tmp 112)), ⟨(some 114), (some (113, true)), .call 19 []⟩, oT 115 (.pick (.tmp 113) (.tmp 114) (.const (.bool false))), oT 6 (.mov (.tmp 115))]) (.ret)) (.skip))) (.seq (.reg [ oT 116 (.mov (.tmp 16)), oT 117 (.bin .eql (.tmp 116) (kI 2)), oT 118 (.mov (.tmp 117)), ⟨(some 119), (some (118, false)), .mov (.tmp 16)⟩, ⟨(some 120), (some (118, false)), .bin .eql (.tmp 119) (kI 1)⟩, ⟨(some 121), (some (118, false)), .mov (.tmp 120)⟩, ⟨(some 122), (some (121, true)), .fadr 4 (.tmp 5)⟩, ⟨(some 123), (some (121, true)), .load (.tmp 122) none⟩, ⟨(some 124), (some (121, true)), .len (.tmp 123)⟩, ⟨(some 125), (some (121, true)), .bin .gtr (.tmp 124) (kI 8)⟩, ⟨(some 126), (some (118, false)), .pick (.tmp 121) (.tmp 125) (.const (.bool false))⟩, oT 127 (.pick (.tmp 118) (.const (.bool true)) (.tmp 126)), oT 128 (.mov (.tmp 127)), ⟨(some 129), (some (128, true)), .load (.tmp 15) (some 18)⟩, ⟨(some 130), (some (128, true)), .build zD []⟩, ⟨(some 131), (some (128, true)), .call 44 [(.tmp 129), (.tmp 130)]⟩, oT 132 (.pick (.tmp 128) (.tmp 131) (.const (.bool false))), oT 133 (.mov (.tmp 132)), ⟨(some 134), (some (133, true)), .call 19 []⟩, oT 135 (.pick (.tmp 133) (.tmp 134) (.const (.bool false))), oT 6 (.mov (.tmp 135))]) (.ret))))))))))))⟩
theorem st20 : stF Try.prog qt 20 = some il20 := by kernel_rfl
abbrev r20_0 : IL := il20.body
def c20_0 : IL := (splitS 1 r20_0).1
def r20_1 : IL := (splitS 1 r20_0).2
def c20_1 : IL := (splitS 2 r20_1).1
def r20_2 : IL := (splitS 2 r20_1).2
def c20_2 : IL := (splitS 1 r20_2).1
def r20_3 : IL := (splitS 1 r20_2).2
theorem tree20t0 (y mo ba fe re ta ad cu oc ic la lo ce : Int) (wal wan wa0 wa1 wa2 zal zan za0 za1 za2 xa ya ta_ : Option Addr) (wnl wnn wn0 wn1 wn2 wcl wcn wc0 wc1 wc2 znl znn zn0 zn1 zn2 zcl zcn zc0 zc1 zc2 xn xc yn yc tn tc : Nat) (q1 q2 : Option Blk) (H G X8 X9 X10 X11 : Heap) : (fun (Z0 : It) => (fun (Z1 : Operand) => (fun (Z2 : SH) => (fun (Z3 : Value) => (fun (Z4 : SH) => (fun (Z5 : SH) => (fun (Z6 : SH) => (fun (Z7 : SH) => pieceS tbl (gE 0) (cE 0) 600 (resLv il20.res) r20_3 (.use 26000090 (rS xa xn xc) ⟨[], [.seg X8]⟩ (.pur 10000093 (.bool true) (.use 26000095 (sB true) ⟨[], []⟩ (.con (.use 26000099 (rS ya yn yc) ⟨[], [.seg X9]⟩ (.use 26000100 (rS ta_ tn tc) ⟨[], [.seg X10]⟩ (.use 26000101 (.raw (.tuple ⟨[Z3, (.int .i64 0)]⟩)) ⟨[], [.seg X11]⟩ (.use 26000105 (sB true) ⟨[], []⟩ (.con (.con (.con (.con (.use 26000111 (sB true) ⟨[], []⟩ (.con (.con (.con .nil)))))))))))))))) (frS 136 [(5, (.ptr 3 0)), (6, (sB false))]) Z7 =
(.claim (opA (Plain.env tbl (gE 0)) (.call 67 [Z1]) [] (denH Z7) = some ((.slice xa xn xc), denH Z4))
 (.claim (opA (Plain.env tbl (gE 0)) (.bin .gtr (kI (xn : Int)) (kI 0)) [] [] = some ((.bool true), []))
 (.claim (opA (Plain.env tbl (gE 0)) (.call 42 [Z1]) [] (denH Z4) = some ((.bool true), denH Z4))
 (.claim (opA (Plain.env tbl (gE 0)) (.call 69 [Z1]) [] (denH Z4) = some ((.slice ya yn yc), denH Z6))
 (.claim (opA (Plain.env tbl (gE 0)) (.call 34 [(.const (.slice ya yn yc))]) [] (denH Z6) = some ((.slice ta_ tn tc), denH Z5))
 (.claim (opA (Plain.env tbl (gE 0)) (.call 68 [(.const (.slice ta_ tn tc))]) [] (denH Z5) = some ((.tuple ⟨[Z3, (.int .i64 0)]⟩), denH [.seg H, .raw q1, .raw q2, Z0, .seg G, .seg X8, .seg X9, .seg X10, .seg X11]))
 (.claim (opA (Plain.env tbl (gE 0)) (.call 42 [Z1]) [] (denH Z2) = some ((.bool true), denH Z2))
 (.claim (opA (Plain.env tbl (gE 0)) (.call 44 [(.const Z3), Z1]) [] (denH Z2) = some ((.bool true), denH Z2))
 (.req true (.ret .ret (frS 136 [(6, (sB true))]) Z2))))))))))) [.seg H, .raw q1, .raw q2, Z0, .seg G]) [.seg H, .raw q1, .raw q2, Z0, .seg G, .seg X8, .seg X9]) [.seg H, .raw q1, .raw q2, Z0, .seg G, .seg X8, .seg X9, .seg X10]) [.seg H, .raw q1, .raw q2, Z0, .seg G, .seg X8]) (.agg ⟨[(.int .i64 y), (.int .i64 mo), (.int .i64 ba), (.slice zal wnl zcl), (.slice zan wnn zcn), (.int .i64 fe), (.int .i64 re), (.int .i64 ta), (.int .i64 ad), (.int .i64 cu), (.int .i64 oc), (.int .i64 ic), (.int .i64 la), (.int .i64 lo), (.int .i64 ce), (.slice za0 wn0 zc0), (.slice za1 wn1 zc1), (.slice za2 wn2 zc2)]⟩)) [.seg H, .raw q1, .raw q2, Z0, .seg G, .seg X8, .seg X9, .seg X10, .seg X11, (dB y mo ba (rS zal wnl zcl) (rS zan wnn zcn) fe re ta ad cu oc ic la lo ce (rS za0 wn0 zc0) (rS za1 wn1 zc1) (rS za2 wn2 zc2))]) (.const (.agg ⟨[(.int .i64 y), (.int .i64 mo), (.int .i64 ba), (.slice wal wnl wcl), (.slice wan wnn wcn), (.int .i64 fe), (.int .i64 re), (.int .i64 ta), (.int .i64 ad), (.int .i64 cu), (.int .i64 oc), (.int .i64 ic), (.int .i64 la), (.int .i64 lo), (.int .i64 ce), (.slice wa0 wn0 wc0), (.slice wa1 wn1 wc1), (.slice wa2 wn2 wc2)]⟩))) (dB y mo ba (rS wal wnl wcl) (rS wan wnn wcn) fe re ta ad cu oc ic la lo ce (rS wa0 wn0 wc0) (rS wa1 wn1 wc1) (rS wa2 wn2 wc2)) := by show _ = _; kernel_rfl
theorem tree20t1 (y mo ba fe re ta ad cu oc ic la lo ce : Int) (wal wan wa0 wa1 wa2 zal zan za0 za1 za2 xa ya ta_ : Option Addr) (wnl wnn wn0 wn1 wn2 wcl wcn wc0 wc1 wc2 znl znn zn0 zn1 zn2 zcl zcn zc0 zc1 zc2 xn xc yn yc tn tc : Nat) (q1 q2 : Option Blk) (H G X8 X9 X10 X11 : Heap) : (fun (Z0 : It) => (fun (Z1 : Operand) => (fun (Z2 : SH) => (fun (Z3 : Value) => (fun (Z4 : SH) => (fun (Z5 : SH) => (fun (Z6 : SH) => (fun (Z7 : SH) => pieceS tbl (gE 0) (cE 0) 600 (resLv il20.res) r20_3 (.use 26000090 (rS xa xn xc) ⟨[], [.seg X8]⟩ (.pur 10000093 (.bool false) (.use 26000095 (sB false) ⟨[], []⟩ (.con (.use 26000099 (rS ya yn yc) ⟨[], [.seg X9]⟩ (.use 26000100 (rS ta_ tn tc) ⟨[], [.seg X10]⟩ (.use 26000101 (.raw (.tuple ⟨[Z3, (.int .i64 2)]⟩)) ⟨[], [.seg X11]⟩ (.use 26000105 (sB false) ⟨[], []⟩ (.con (.con (.con (.con (.con (.con (.con (.con (.con (.use 26000131 (sB true) ⟨[], []⟩ (.con (.con (.con .nil))))))))))))))))))))) (frS 136 [(5, (.ptr 3 0)), (6, (sB false))]) Z7 =
(.claim (opA (Plain.env tbl (gE 0)) (.call 67 [Z1]) [] (denH Z7) = some ((.slice xa xn xc), denH Z4))
 (.claim (opA (Plain.env tbl (gE 0)) (.bin .gtr (kI (xn : Int)) (kI 0)) [] [] = some ((.bool false), []))
 (.claim (opA (Plain.env tbl (gE 0)) (.call 42 [Z1]) [] (denH Z4) = some ((.bool false), denH Z4))
 (.claim (opA (Plain.env tbl (gE 0)) (.call 69 [Z1]) [] (denH Z4) = some ((.slice ya yn yc), denH Z6))
 (.claim (opA (Plain.env tbl (gE 0)) (.call 34 [(.const (.slice ya yn yc))]) [] (denH Z6) = some ((.slice ta_ tn tc), denH Z5))
 (.claim (opA (Plain.env tbl (gE 0)) (.call 68 [(.const (.slice ta_ tn tc))]) [] (denH Z5) = some ((.tuple ⟨[Z3, (.int .i64 2)]⟩), denH [.seg H, .raw q1, .raw q2, Z0, .seg G, .seg X8, .seg X9, .seg X10, .seg X11]))
 (.claim (opA (Plain.env tbl (gE 0)) (.call 42 [Z1]) [] (denH Z2) = some ((.bool false), denH Z2))
 (.claim (opA (Plain.env tbl (gE 0)) (.call 44 [(.const Z3), (.const (.agg ⟨zD⟩))]) [] (denH Z2) = some ((.bool true), denH Z2))
 (.req true (.ret .ret (frS 136 [(6, (sB true))]) Z2))))))))))) [.seg H, .raw q1, .raw q2, Z0, .seg G]) [.seg H, .raw q1, .raw q2, Z0, .seg G, .seg X8, .seg X9]) [.seg H, .raw q1, .raw q2, Z0, .seg G, .seg X8, .seg X9, .seg X10]) [.seg H, .raw q1, .raw q2, Z0, .seg G, .seg X8]) (.agg ⟨[(.int .i64 0), (.int .i64 0), (.int .i64 0), (.slice zal znl zcl), (.slice zan znn zcn), (.int .i64 0), (.int .i64 0), (.int .i64 0), (.int .i64 0), (.int .i64 0), (.int .i64 0), (.int .i64 0), (.int .i64 0), (.int .i64 0), (.int .i64 0), (.slice za0 zn0 zc0), (.slice za1 zn1 zc1), (.slice za2 zn2 zc2)]⟩)) [.seg H, .raw q1, .raw q2, Z0, .seg G, .seg X8, .seg X9, .seg X10, .seg X11, (dB 0 0 0 (rS zal znl zcl) (rS zan znn zcn) 0 0 0 0 0 0 0 0 0 0 (rS za0 zn0 zc0) (rS za1 zn1 zc1) (rS za2 zn2 zc2))]) (.const (.agg ⟨[(.int .i64 y), (.int .i64 mo), (.int .i64 ba), (.slice wal wnl wcl), (.slice wan wnn wcn), (.int .i64 fe), (.int .i64 re), (.int .i64 ta), (.int .i64 ad), (.int .i64 cu), (.int .i64 oc), (.int .i64 ic), (.int .i64 la), (.int .i64 lo), (.int .i64 ce), (.slice wa0 wn0 wc0), (.slice wa1 wn1 wc1), (.slice wa2 wn2 wc2)]⟩))) (dB y mo ba (rS wal wnl wcl) (rS wan wnn wcn) fe re ta ad cu oc ic la lo ce (rS wa0 wn0 wc0) (rS wa1 wn1 wc1) (rS wa2 wn2 wc2)) := by show _ = _; kernel_rfl
theorem tree20t2 (y mo ba fe re ta ad cu oc ic la lo ce : Int) (wal wan wa0 wa1 wa2 zal zan za0 za1 za2 xa ya ta_ : Option Addr) (wnl wnn wn0 wn1 wn2 wcl wcn wc0 wc1 wc2 znl znn zn0 zn1 zn2 zcl zcn zc0 zc1 zc2 xn xc yn yc tn tc : Nat) (q1 q2 : Option Blk) (H G X8 X9 X10 X11 : Heap) : (fun (Z0 : It) => (fun (Z1 : Operand) => (fun (Z2 : SH) => (fun (Z3 : Value) => (fun (Z4 : SH) => (fun (Z5 : SH) => (fun (Z6 : SH) => (fun (Z7 : SH) => pieceS tbl (gE 0) (cE 0) 600 (resLv il20.res) r20_3 (.use 26000090 (rS xa xn xc) ⟨[], [.seg X8]⟩ (.pur 10000093 (.bool false) (.use 26000095 (sB false) ⟨[], []⟩ (.con (.use 26000099 (rS ya yn yc) ⟨[], [.seg X9]⟩ (.use 26000100 (rS ta_ tn tc) ⟨[], [.seg X10]⟩ (.use 26000101 (.raw (.tuple ⟨[Z3, (.int .i64 1)]⟩)) ⟨[], [.seg X11]⟩ (.use 26000105 (sB false) ⟨[], []⟩ (.con (.con (.con (.con (.con (.con (.con (.con (.pur 10000125 (.bool true) (.con (.con (.con (.con (.con (.con (.use 26000131 (sB true) ⟨[], []⟩ (.con (.con (.con .nil))))))))))))))))))))))))))) (frS 136 [(5, (.ptr 3 0)), (6, (sB false))]) Z7 =
(.claim (opA (Plain.env tbl (gE 0)) (.call 67 [Z1]) [] (denH Z7) = some ((.slice xa xn xc), denH Z4))
 (.claim (opA (Plain.env tbl (gE 0)) (.bin .gtr (kI (xn : Int)) (kI 0)) [] [] = some ((.bool false), []))
 (.claim (opA (Plain.env tbl (gE 0)) (.call 42 [Z1]) [] (denH Z4) = some ((.bool false), denH Z4))
 (.claim (opA (Plain.env tbl (gE 0)) (.call 69 [Z1]) [] (denH Z4) = some ((.slice ya yn yc), denH Z6))
 (.claim (opA (Plain.env tbl (gE 0)) (.call 34 [(.const (.slice ya yn yc))]) [] (denH Z6) = some ((.slice ta_ tn tc), denH Z5))
 (.claim (opA (Plain.env tbl (gE 0)) (.call 68 [(.const (.slice ta_ tn tc))]) [] (denH Z5) = some ((.tuple ⟨[Z3, (.int .i64 1)]⟩), denH [.seg H, .raw q1, .raw q2, Z0, .seg G, .seg X8, .seg X9, .seg X10, .seg X11]))
 (.claim (opA (Plain.env tbl (gE 0)) (.call 42 [Z1]) [] (denH Z2) = some ((.bool false), denH Z2))
 (.claim (opA (Plain.env tbl (gE 0)) (.bin .gtr (kI (wnn : Int)) (kI 8)) [] [] = some ((.bool true), []))
 (.claim (opA (Plain.env tbl (gE 0)) (.call 44 [(.const Z3), (.const (.agg ⟨zD⟩))]) [] (denH Z2) = some ((.bool true), denH Z2))
 (.req true (.ret .ret (frS 136 [(6, (sB true))]) Z2)))))))))))) [.seg H, .raw q1, .raw q2, Z0, .seg G]) [.seg H, .raw q1, .raw q2, Z0, .seg G, .seg X8, .seg X9]) [.seg H, .raw q1, .raw q2, Z0, .seg G, .seg X8, .seg X9, .seg X10]) [.seg H, .raw q1, .raw q2, Z0, .seg G, .seg X8]) (.agg ⟨[(.int .i64 0), (.int .i64 0), (.int .i64 0), (.slice zal znl zcl), (.slice zan znn zcn), (.int .i64 0), (.int .i64 0), (.int .i64 0), (.int .i64 0), (.int .i64 0), (.int .i64 0), (.int .i64 0), (.int .i64 0), (.int .i64 0), (.int .i64 0), (.slice za0 zn0 zc0), (.slice za1 zn1 zc1), (.slice za2 zn2 zc2)]⟩)) [.seg H, .raw q1, .raw q2, Z0, .seg G, .seg X8, .seg X9, .seg X10, .seg X11, (dB 0 0 0 (rS zal znl zcl) (rS zan znn zcn) 0 0 0 0 0 0 0 0 0 0 (rS za0 zn0 zc0) (rS za1 zn1 zc1) (rS za2 zn2 zc2))]) (.const (.agg ⟨[(.int .i64 y), (.int .i64 mo), (.int .i64 ba), (.slice wal wnl wcl), (.slice wan wnn wcn), (.int .i64 fe), (.int .i64 re), (.int .i64 ta), (.int .i64 ad), (.int .i64 cu), (.int .i64 oc), (.int .i64 ic), (.int .i64 la), (.int .i64 lo), (.int .i64 ce), (.slice wa0 wn0 wc0), (.slice wa1 wn1 wc1), (.slice wa2 wn2 wc2)]⟩))) (dB y mo ba (rS wal wnl wcl) (rS wan wnn wcn) fe re ta ad cu oc ic la lo ce (rS wa0 wn0 wc0) (rS wa1 wn1 wc1) (rS wa2 wn2 wc2)) := by show _ = _; kernel_rfl
theorem use68 {I : SH} (hI : I.all (It.bnd I.length) = true) {s : Value} {bs : List Int} (hs : RowsW 1 (denH I) s (bs.map br)) (hb : bs.length ≤ 1000000) :
  ∃ v X, runE (Plain.env [] (DU.gE 0)) DU.il68 [s] (denH I) = some (.tuple ⟨[v, .int .i64 (decD bs).2]⟩, denH (I ++ [.seg X])) ∧ DlW (denH (I ++ [.seg X])) v (decD bs).1 := by
 obtain ⟨v, X, r, hd⟩ := DU.run68 hs hb
 exact ⟨v, X, by rw [denH_snoc I hI]; exact r, by rw [denH_snoc I hI]; exact hd⟩
theorem sm0 : dv0.sm := ⟨by show (0 : Nat) ≤ _; decide, by show (0 : Nat) ≤ _; decide, by show (0 : Nat) ≤ _; decide, by show (0 : Nat) ≤ _; decide, by show (0 : Nat) ≤ _; decide⟩
theorem DlW.up {I : SH} {v : Value} {d : DV} (h : DlW (denH I) v d) (hI : I.all (It.bnd I.length) = true) (X : SH) : DlW (denH (I ++ X)) v d := by
 obtain ⟨R, e⟩ := denH_up hI X
 rw [e]; exact DU.DlW.app h R
theorem gtr_ok (Γ : Env) (x y : Int) (q : Bool) (h : q = decide (x > y)) : opA Γ (.bin .gtr (kI x) (kI y)) [] [] = some (.bool q, []) := by
 simp only [opA, pureA, ev, binA, intBin, if_true]
 subst h
 congr 3
structure Nine (d : DV) : Prop where
 l : d.l.length ≤ 9
 n : d.n.length ≤ 9
 s0 : d.s0.length ≤ 9
 s1 : d.s1.length ≤ 9
 s2 : d.s2.length ≤ 9
theorem Nine.sm {d : DV} (h : Nine d) : d.sm := ⟨Nat.le_trans h.l (by decide), Nat.le_trans h.n (by decide), Nat.le_trans h.s0 (by decide), Nat.le_trans h.s1 (by decide), Nat.le_trans h.s2 (by decide)⟩
theorem Nine.lim {d : DV} (h : Nine d) : DE.DLim d := ⟨Nat.le_trans h.l (by decide), Nat.le_trans h.n (by decide), Nat.le_trans h.s0 (by decide), Nat.le_trans h.s1 (by decide), Nat.le_trans h.s2 (by decide)⟩
theorem tail {H G : Heap} {q1 q2 : Option Blk} {d : DV} {al an a0 a1 a2 : Option Addr} {cl cn c0 c1 c2 : Nat} (hd : DlW (denH [.seg H, .raw q1, .raw q2, dD d al an a0 a1 a2 cl cn c0 c1 c2, .seg G]) (dVal al an a0 a1 a2 d.l.length cl d.n.length cn d.s0.length c0 d.s1.length c1 d.s2.length c2 d) d) (hi : DIn d) (h9 : Nine d) :
  Wp (Plain.env tbl (gE 0)) (resLv il20.res) r20_3 (denF [.seg H, .raw q1, .raw q2, dD d al an a0 a1 a2 cl cn c0 c1 c2, .seg G] (frS 136 [(5, (.ptr 3 0)), (6, (sB false))])) (denH [.seg H, .raw q1, .raw q2, dD d al an a0 a1 a2 cl cn c0 c1 c2, .seg G]) fun e s h' => (e = .normal ∨ e = .ret) ∧ ∃ v, resA s h' il20.res = some v ∧ v = .bool true := by
 have l1 := h9.l
 have l2 := h9.n
 have l3 := h9.s0
 have l4 := h9.s1
 have l5 := h9.s2
 have nd := DE.dealI_len d
 obtain ⟨xa, xc, X8, g1, _⟩ := DE.E67.use (I := [.seg H, .raw q1, .raw q2, dD d al an a0 a1 a2 cl cn c0 c1 c2, .seg G]) rfl hd h9.sm
 have g2 : smry preD (fun d h => (.bool (rightB d), h)) [dVal al an a0 a1 a2 d.l.length cl d.n.length cn d.s0.length c0 d.s1.length c1 d.s2.length c2 d] (denH [.seg H, .raw q1, .raw q2, dD d al an a0 a1 a2 cl cn c0 c1 c2, .seg G, .seg X8]) = some (.bool (rightB d), denH [.seg H, .raw q1, .raw q2, dD d al an a0 a1 a2 cl cn c0 c1 c2, .seg G, .seg X8]) := preD_u ⟨_, rfl, DlW.up hd rfl [.seg X8], h9.sm⟩
 obtain ⟨ya, yn, yc, X9, g3, r3⟩ := DE.E69.use (I := [.seg H, .raw q1, .raw q2, dD d al an a0 a1 a2 cl cn c0 c1 c2, .seg G, .seg X8]) rfl (DlW.up hd rfl [.seg X8]) h9.lim
 obtain ⟨ta, tc, X10, g4, r4⟩ := useB (I := [.seg H, .raw q1, .raw q2, dD d al an a0 a1 a2 cl cn c0 c1 c2, .seg G, .seg X8, .seg X9]) rfl r3 (by omega)
 obtain ⟨v, X11, g5, hz⟩ := use68 (I := [.seg H, .raw q1, .raw q2, dD d al an a0 a1 a2 cl cn c0 c1 c2, .seg G, .seg X8, .seg X9, .seg X10]) rfl r4 (by rw [byt_len]; omega)
 have inI := DZ.dealI_in hi ⟨by omega, by omega, by omega, by omega, by omega⟩
 by_cases rt : rightB d = true
 ·have bn := DZ.right_bnd rt
  rw [DZ.decD_byt inI bn, if_pos rt] at g5 hz
  rw [rt] at g2
  have ne : (encD d).length > 0 := by unfold encD; rw [rt, if_pos rfl, byt_len]; omega
  have hz' := hz
  obtain ⟨zal, zan, za0, za1, za2, zcl, zcn, zc0, zc1, zc2, rfl, _⟩ := hz'
  have g6 : smry preD (fun d h => (.bool (rightB d), h)) [dVal al an a0 a1 a2 d.l.length cl d.n.length cn d.s0.length c0 d.s1.length c1 d.s2.length c2 d] (denH [.seg H, .raw q1, .raw q2, dD d al an a0 a1 a2 cl cn c0 c1 c2, .seg G, .seg X8, .seg X9, .seg X10, .seg X11, dD d zal zan za0 za1 za2 zcl zcn zc0 zc1 zc2]) = some (.bool true, denH [.seg H, .raw q1, .raw q2, dD d al an a0 a1 a2 cl cn c0 c1 c2, .seg G, .seg X8, .seg X9, .seg X10, .seg X11, dD d zal zan za0 za1 za2 zcl zcn zc0 zc1 zc2]) := by
   rw [← rt]
   exact preD_u ⟨_, rfl, DlW.up hd rfl [.seg X8, .seg X9, .seg X10, .seg X11, dD d zal zan za0 za1 za2 zcl zcn zc0 zc1 zc2], h9.sm⟩
  have g7 := K.call44g (DlW.up hz rfl [dD d zal zan za0 za1 za2 zcl zcn zc0 zc1 zc2]) (DlW.up hd rfl [.seg X8, .seg X9, .seg X10, .seg X11, dD d zal zan za0 za1 za2 zcl zcn zc0 zc1 zc2]) h9.sm
  rw [K.eqD_t] at g7
  have tr : _ = _ := tree20t0 d.y d.mo d.ba d.fe d.re d.ta d.ad d.cu d.oc d.ic d.la d.lo d.ce al an a0 a1 a2 zal zan za0 za1 za2 xa ya ta d.l.length d.n.length d.s0.length d.s1.length d.s2.length cl cn c0 c1 c2 0 0 0 0 0 zcl zcn zc0 zc1 zc2 (encD d).length xc yn yc (byt (dealI d)).length tc q1 q2 H G X8 X9 X10 X11
  exact Wp.tree (cE_ok 0) tr ⟨by kernel_rfl, by kernel_rfl⟩ ⟨call (args := [_]) rfl g1, gtr_ok _ _ _ _ (decide_eq_true (by omega)).symm, call (args := [_]) rfl g2, call (args := [_]) rfl g3, call (args := [_]) rfl g4, call (args := [_]) rfl g5, call (args := [_]) rfl g6, call (args := [_, _]) rfl g7, rfl, .inr rfl, _, rfl, rfl⟩
 ·have rf : rightB d = false := by simpa using rt
  rw [rf] at g2
  have ne : (encD d).length = 0 := by unfold encD; rw [rf]; rfl
  rw [ne] at g1
  have g6 : ∀ X : It, X.bnd 9 = true → smry preD (fun d h => (.bool (rightB d), h)) [dVal al an a0 a1 a2 d.l.length cl d.n.length cn d.s0.length c0 d.s1.length c1 d.s2.length c2 d] (denH [.seg H, .raw q1, .raw q2, dD d al an a0 a1 a2 cl cn c0 c1 c2, .seg G, .seg X8, .seg X9, .seg X10, .seg X11, X]) = some (.bool false, denH [.seg H, .raw q1, .raw q2, dD d al an a0 a1 a2 cl cn c0 c1 c2, .seg G, .seg X8, .seg X9, .seg X10, .seg X11, X]) := fun X _ => by
   rw [← rf]
   exact preD_u ⟨_, rfl, DlW.up hd rfl [.seg X8, .seg X9, .seg X10, .seg X11, X], h9.sm⟩
  by_cases n8 : d.n.length ≤ 8
  ·rw [DZ.decD_byt inI ⟨by omega, n8, by omega, by omega, by omega⟩, if_neg rt] at g5 hz
   have hz' := hz
   obtain ⟨zal, zan, za0, za1, za2, zcl, zcn, zc0, zc1, zc2, rfl, _⟩ := hz'
   have g7 := K.call44g (b := dVal none none none none none 0 0 0 0 0 0 0 0 0 0 dv0) (DlW.up hz rfl [dB 0 0 0 (rS zal 0 zcl) (rS zan 0 zcn) 0 0 0 0 0 0 0 0 0 0 (rS za0 0 zc0) (rS za1 0 zc1) (rS za2 0 zc2)]) (DU.nil0 _) sm0
   rw [K.eqD_t] at g7
   have tr : _ = _ := tree20t1 d.y d.mo d.ba d.fe d.re d.ta d.ad d.cu d.oc d.ic d.la d.lo d.ce al an a0 a1 a2 zal zan za0 za1 za2 xa ya ta d.l.length d.n.length d.s0.length d.s1.length d.s2.length cl cn c0 c1 c2 0 0 0 0 0 zcl zcn zc0 zc1 zc2 0 xc yn yc (byt (dealI d)).length tc q1 q2 H G X8 X9 X10 X11
   exact Wp.tree (cE_ok 0) tr ⟨by kernel_rfl, by kernel_rfl⟩ ⟨call (args := [_]) rfl g1, gtr_ok _ _ _ _ rfl, call (args := [_]) rfl g2, call (args := [_]) rfl g3, call (args := [_]) rfl g4, call (args := [_]) rfl g5, call (args := [_]) rfl (g6 _ rfl), call (args := [_, _]) rfl g7, rfl, .inr rfl, _, rfl, rfl⟩
  ·rw [DZ.decD_over inI (by omega) (by omega)] at g5 hz
   have hz' := hz
   obtain ⟨zal, zan, za0, za1, za2, zcl, zcn, zc0, zc1, zc2, rfl, _⟩ := hz'
   have g7 := K.call44g (b := dVal none none none none none 0 0 0 0 0 0 0 0 0 0 dv0) (DlW.up hz rfl [dB 0 0 0 (rS zal 0 zcl) (rS zan 0 zcn) 0 0 0 0 0 0 0 0 0 0 (rS za0 0 zc0) (rS za1 0 zc1) (rS za2 0 zc2)]) (DU.nil0 _) sm0
   rw [K.eqD_t] at g7
   have tr : _ = _ := tree20t2 d.y d.mo d.ba d.fe d.re d.ta d.ad d.cu d.oc d.ic d.la d.lo d.ce al an a0 a1 a2 zal zan za0 za1 za2 xa ya ta d.l.length d.n.length d.s0.length d.s1.length d.s2.length cl cn c0 c1 c2 0 0 0 0 0 zcl zcn zc0 zc1 zc2 0 xc yn yc (byt (dealI d)).length tc q1 q2 H G X8 X9 X10 X11
   exact Wp.tree (cE_ok 0) tr ⟨by kernel_rfl, by kernel_rfl⟩ ⟨call (args := [_]) rfl g1, gtr_ok _ _ _ _ rfl, call (args := [_]) rfl g2, call (args := [_]) rfl g3, call (args := [_]) rfl g4, call (args := [_]) rfl g5, call (args := [_]) rfl (g6 _ rfl), gtr_ok _ _ _ _ (decide_eq_true (by omega)).symm, call (args := [_, _]) rfl g7, rfl, .inr rfl, _, rfl, rfl⟩
end T20
end Go.Proofs.Ytgdojnamjkhknaa
