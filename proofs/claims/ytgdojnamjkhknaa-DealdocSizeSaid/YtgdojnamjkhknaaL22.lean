/-
  The law DealdocSize.
-/
import Derived.Test.YtgdojnamjkhknaaLk
import Derived.Test.YtgdojnamjkhknaaDe
import Derived.Test.YtgdojnamjkhknaaSamA
import Derived.Test.YtgdojnamjkhknaaIp
import Derived.Test.YtgdojnamjkhknaaClDealdocRuns
namespace Go.Proofs.Ytgdojnamjkhknaa
open Go.Am
set_option linter.all false
set_option maxRecDepth 100000
--abbr 20 kB
--abbr 18 dB
namespace DQ
def sRuns : List Value → Option (Bool × Value)
  | [] => some (true, .bool true)
  | _ => none
theorem runs_ok : ∀ args v, sRuns args = some (true, v) → args.all (belowV 0) = true ∧ belowV 0 v = true ∧ Sim Try.prog 19 args [] fun v1 _ => v1 = v := fun args v e => by
  unfold sRuns at e
  split at e
  · cases e; exact ⟨rfl, rfl, ClDealdocRuns.sim.mono fun _ _ q => q.1⟩
  · cases e
abbrev tbl : Plain := [(19, sRuns), (30, sWithin)]
theorem tbl_ok : PlainOk Try.prog tbl := .cons runs_ok (.cons (within_ok mixed st30) .nil)
end DQ
namespace T22
open DQ
open K (KV KW kVal dealF kB At)
open D (DV DlW dVal preD rightB)
open DE (dB dealI encD flat2 headI stepsI flat3)
open WB (byt byt_len wd)
noncomputable def gK : Env := fun f => match f with
  | 27 => smry (preSame 1 br) resSame
  | 41 => runE (Plain.env K.tblK (K.E1.gE 0)) K.E1.il41
  | 67 => smry preD fun d h => (freshV h ((encD d).map br), h ++ freshX 1 ((encD d).map br))
  | _ => fun _ _ => none
theorem gK_ok : EnvOk Try.prog gK := fun f => by
  unfold gK
  split
  · exact S27.sim
  · exact Summ.runE mixed (K.E1.gE_ok 0) (K.E1.gE_q 0) K.E1.st41
  · exact DE.E67.summ
  · exact fun args h v h' e => by cases e
theorem gK_q : QuietEnv qt gK := fun f args h v h' hf e => by cases hf
noncomputable abbrev gE (k : Nat) : Env := inE tbl [] k gK
noncomputable abbrev cE (k : Nat) : CallS := callS tbl [] gK 100 k
theorem gE_q (k : Nat) : QuietEnv qt (Plain.env tbl (gE k)) := Plain.quiet (inE_quiet gK_q (fun f F h => by cases h) k)
theorem gE_ok (k : Nat) : EnvOk Try.prog (Plain.env tbl (gE k)) := Plain.ok tbl_ok (inE_ok (qt := qt) mixed tbl_ok .nil (fun f F h => by cases h) gK_ok gK_q k)
theorem cE_ok (k : Nat) : CallOk (Plain.env tbl (gE k)) (cE k) := callS_ok k
/-- cascade/cascadelaw13.DealdocSize -/
def il22 : FnIL := ⟨114, [.tmp 4],
 .seq (.reg [
    ⟨(some 2), none, .box (.tmp 0)⟩,
    ⟨(some 4), none, .mov (.const (.bool false))⟩])
 (.seq (.reg [
    ⟨(some 14), none, .load (.tmp 2) (some 20)⟩,
    ⟨(some 15), none, .call 41 [(.tmp 14)]⟩,
    ⟨(some 5), none, .alloc [(.int .i64 0), (.int .i64 0), (.int .i64 0), (.slice none 0 0), (.slice none 0 0), (.int .i64 0), (.int .i64 0), (.int .i64 0), (.int .i64 0), (.int .i64 0), (.int .i64 0), (.int .i64 0), (.int .i64 0), (.int .i64 0), (.int .i64 0), (.slice none 0 0), (.slice none 0 0), (.slice none 0 0)]⟩,
    ⟨none, none, .store (.tmp 5) (.tmp 15) 18⟩])
 (.seq (.reg [
    ⟨(some 16), none, .load (.tmp 5) (some 18)⟩,
    ⟨(some 17), none, .call 67 [(.tmp 16)]⟩,
    ⟨(some 6), none, .mov (.tmp 17)⟩])
 (.seq (.reg [
    ⟨(some 18), none, .fadr 3 (.tmp 5)⟩,
    ⟨(some 19), none, .load (.tmp 18) none⟩,
    ⟨(some 20), none, .len (.tmp 19)⟩,
    ⟨(some 21), none, .bin .mul (.const (.int .i64 2)) (.tmp 20)⟩,
    ⟨(some 22), none, .bin .add (.const (.int .i64 14)) (.tmp 21)⟩,
    ⟨(some 23), none, .bin .add (.tmp 22) (.const (.int .i64 1))⟩,
    ⟨(some 24), none, .fadr 4 (.tmp 5)⟩,
    ⟨(some 25), none, .load (.tmp 24) none⟩,
    ⟨(some 26), none, .len (.tmp 25)⟩,
    ⟨(some 27), none, .bin .mul (.const (.int .i64 3)) (.tmp 26)⟩,
    ⟨(some 28), none, .bin .add (.tmp 23) (.tmp 27)⟩,
    ⟨(some 7), none, .mov (.tmp 28)⟩])
 (.seq (.seq (.reg [
     ⟨(some 29), none, .fadr 15 (.tmp 5)⟩,
     ⟨(some 30), none, .load (.tmp 29) (some 3)⟩,
     ⟨(some 31), none, .mov (.const (.int .i64 0))⟩])
  (.block 0
    (.loop
      (.seq (.reg [
         ⟨(some 32), none, .bin .lss (.tmp 31) (.const (.int .i64 3))⟩])
      (.seq (.ite (.tmp 32)
         (.skip)
         (.exit 0))
      (.seq (.block 1
         (.seq (.reg [
            ⟨(some 33), none, .idx 1 3 none (.tmp 30) (.tmp 31)⟩,
            ⟨(some 9), none, .mov (.tmp 33)⟩])
         (.reg [
           ⟨(some 34), none, .mov (.tmp 7)⟩,
           ⟨(some 35), none, .bin .add (.tmp 34) (.const (.int .i64 1))⟩,
           ⟨(some 36), none, .mov (.tmp 9)⟩,
           ⟨(some 37), none, .len (.tmp 36)⟩,
           ⟨(some 38), none, .bin .mul (.const (.int .i64 2)) (.tmp 37)⟩,
           ⟨(some 39), none, .bin .add (.tmp 35) (.tmp 38)⟩,
           ⟨(some 7), none, .mov (.tmp 39)⟩])))
      (.reg [
        ⟨(some 40), none, .bin .add (.tmp 31) (.const (.int .i64 1))⟩,
        ⟨(some 31), none, .mov (.tmp 40)⟩])))))))
 (.seq (.seq (.reg [
     ⟨(some 41), none, .mov (.tmp 6)⟩,
     ⟨(some 42), none, .len (.tmp 41)⟩,
     ⟨(some 43), none, .mov (.tmp 7)⟩,
     ⟨(some 44), none, .bin .mul (.const (.int .i64 8)) (.tmp 43)⟩,
     ⟨(some 45), none, .bin .neq (.tmp 42) (.tmp 44)⟩])
  (.ite (.tmp 45)
    (.seq (.reg [
       ⟨(some 4), none, .mov (.const (.bool false))⟩])
    (.ret))
    (.skip)))
 (.seq (.reg [
    ⟨(some 46), none, .mov (.tmp 1)⟩,
    ⟨(some 47), none, .fadr 3 (.tmp 5)⟩,
    ⟨(some 48), none, .load (.tmp 47) none⟩,
    ⟨(some 49), none, .len (.tmp 48)⟩,
    ⟨(some 50), none, .bin .sub (.tmp 49) (.const (.int .i64 1))⟩,
    ⟨(some 51), none, .call 30 [(.tmp 46), (.const (.int .i64 0)), (.tmp 50)]⟩,
    ⟨(some 10), none, .mov (.tmp 51)⟩])
 (.seq (.reg [
    ⟨(some 52), none, .load (.tmp 5) (some 18)⟩,
    ⟨(some 11), none, .alloc [(.int .i64 0), (.int .i64 0), (.int .i64 0), (.slice none 0 0), (.slice none 0 0), (.int .i64 0), (.int .i64 0), (.int .i64 0), (.int .i64 0), (.int .i64 0), (.int .i64 0), (.int .i64 0), (.int .i64 0), (.int .i64 0), (.int .i64 0), (.slice none 0 0), (.slice none 0 0), (.slice none 0 0)]⟩,
    ⟨none, none, .store (.tmp 11) (.tmp 52) 18⟩])
 (.seq (.reg [
    ⟨(some 53), none, .mkrow [] 0 []⟩,
    ⟨(some 54), none, .fadr 3 (.tmp 5)⟩,
    ⟨(some 55), none, .load (.tmp 54) none⟩,
    ⟨(some 56), none, .append 2 16 (.tmp 53) (.tmp 55)⟩,
    ⟨(some 57), none, .fadr 3 (.tmp 11)⟩,
    ⟨none, none, .store (.tmp 57) (.tmp 56) 1⟩])
 (.seq (.reg [
    ⟨(some 58), none, .fadr 3 (.tmp 11)⟩,
    ⟨(some 59), none, .load (.tmp 58) none⟩,
    ⟨(some 60), none, .mov (.tmp 10)⟩,
    ⟨(some 61), none, .iadr 2 none (.tmp 59) (.tmp 60)⟩,
    ⟨(some 62), none, .fadr 1 (.tmp 61)⟩,
    ⟨(some 63), none, .load (.tmp 62) none⟩,
    ⟨(some 64), none, .bin .add (.tmp 63) (.const (.int .i64 1))⟩,
    ⟨(some 65), none, .iadr 2 none (.tmp 59) (.tmp 60)⟩,
    ⟨(some 66), none, .fadr 1 (.tmp 65)⟩,
    ⟨none, none, .store (.tmp 66) (.tmp 64) 1⟩])
 (.seq (.reg [
    ⟨(some 67), none, .load (.tmp 11) (some 18)⟩,
    ⟨(some 68), none, .call 67 [(.tmp 67)]⟩,
    ⟨(some 12), none, .mov (.tmp 68)⟩])
 (.seq (.seq (.reg [
     ⟨(some 69), none, .mov (.tmp 12)⟩,
     ⟨(some 70), none, .len (.tmp 69)⟩,
     ⟨(some 71), none, .mov (.tmp 6)⟩,
     ⟨(some 72), none, .len (.tmp 71)⟩,
     ⟨(some 73), none, .bin .neq (.tmp 70) (.tmp 72)⟩])
  (.ite (.tmp 73)
    (.seq (.reg [
       ⟨(some 4), none, .mov (.const (.bool false))⟩])
    (.ret))
    (.skip)))
 (.seq (.reg [
    ⟨(some 74), none, .mov (.tmp 10)⟩,
    ⟨(some 75), none, .bin .mul (.const (.int .i64 2)) (.tmp 74)⟩,
    ⟨(some 76), none, .bin .add (.const (.int .i64 14)) (.tmp 75)⟩,
    ⟨(some 77), none, .bin .add (.tmp 76) (.const (.int .i64 1))⟩,
    ⟨(some 78), none, .bin .mul (.const (.int .i64 8)) (.tmp 77)⟩,
    ⟨(some 13), none, .mov (.tmp 78)⟩])
 (.seq (.dreg [
    ⟨(some 79), none, .mov (.tmp 6)⟩,
    ⟨(some 80), none, .mov (.tmp 13)⟩,
    ⟨(some 81), none, .slice 1 (.tmp 79) none (some (.tmp 80)) none⟩,
    ⟨(some 82), none, .mov (.tmp 12)⟩,
    ⟨(some 83), none, .mov (.tmp 13)⟩,
    ⟨(some 84), none, .slice 1 (.tmp 82) none (some (.tmp 83)) none⟩,
    ⟨(some 85), none, .call 27 [(.tmp 81), (.tmp 84)]⟩,
    ⟨(some 86), none, .mov (.tmp 85)⟩,
    ⟨(some 87), (some (86, true)), .mov (.tmp 6)⟩,
    ⟨(some 88), (some (86, true)), .mov (.tmp 13)⟩,
    ⟨(some 89), (some (86, true)), .bin .add (.tmp 88) (.const (.int .i64 8))⟩,
    ⟨(some 90), (some (86, true)), .slice 1 (.tmp 87) (some (.tmp 89)) none none⟩,
    ⟨(some 91), (some (86, true)), .mov (.tmp 12)⟩,
    ⟨(some 92), (some (86, true)), .mov (.tmp 13)⟩,
    ⟨(some 93), (some (86, true)), .bin .add (.tmp 92) (.const (.int .i64 8))⟩,
    ⟨(some 94), (some (86, true)), .slice 1 (.tmp 91) (some (.tmp 93)) none none⟩,
    ⟨(some 95), (some (86, true)), .call 27 [(.tmp 90), (.tmp 94)]⟩,
    ⟨(some 96), none, .pick (.tmp 86) (.tmp 95) (.const (.bool false))⟩,
    ⟨(some 97), none, .mov (.tmp 96)⟩,
    ⟨(some 98), (some (97, true)), .mov (.tmp 6)⟩,
    ⟨(some 99), (some (97, true)), .mov (.tmp 13)⟩,
    ⟨(some 100), (some (97, true)), .mov (.tmp 13)⟩,
    ⟨(some 101), (some (97, true)), .bin .add (.tmp 100) (.const (.int .i64 8))⟩,
    ⟨(some 102), (some (97, true)), .slice 1 (.tmp 98) (some (.tmp 99)) (some (.tmp 101)) none⟩,
    ⟨(some 103), (some (97, true)), .mov (.tmp 12)⟩,
    ⟨(some 104), (some (97, true)), .mov (.tmp 13)⟩,
    ⟨(some 105), (some (97, true)), .mov (.tmp 13)⟩,
    ⟨(some 106), (some (97, true)), .bin .add (.tmp 105) (.const (.int .i64 8))⟩,
    ⟨(some 107), (some (97, true)), .slice 1 (.tmp 103) (some (.tmp 104)) (some (.tmp 106)) none⟩,
    ⟨(some 108), (some (97, true)), .call 27 [(.tmp 102), (.tmp 107)]⟩,
    ⟨(some 109), (some (97, true)), .un .not (.tmp 108)⟩,
    ⟨(some 110), none, .pick (.tmp 97) (.tmp 109) (.const (.bool false))⟩,
    ⟨(some 111), none, .mov (.tmp 110)⟩,
    ⟨(some 112), (some (111, true)), .call 19 []⟩,
    ⟨(some 113), none, .pick (.tmp 111) (.tmp 112) (.const (.bool false))⟩,
    ⟨(some 4), none, .mov (.tmp 113)⟩] [])
 (.ret))))))))))))))⟩
theorem st22 : stF Try.prog qt 22 = some il22 := by kernel_rfl
def hn22 (u0 u1 u2 u3 u4 u5 u6 : Value) (al an a0 a1 a2 a3 a5 a6 a7 a8 a9 aa ab : Option Addr) (a4 : Addr) (nl nn n0 n1 n2 n3 n5 n6 n7 n8 n9 na nb cl cn c0 c1 c2 c3 c4 c5 c6 c7 c8 c9 ca cb_ b1 o1 : Nat) (k0 k1 k2 k3 k4 k5 k6 k7 k8 k9 k10 k11 k12 y mo ba fe re ta ad cu oc ic la lo ce at_ x1 nm fr fe8 : Int) (b6 : Option Blk) (H X1 X2 X3 X4 Z : Heap) : Hs := (.use 26000015 (.raw (.agg ⟨[(.int .i64 y), (.int .i64 mo), (.int .i64 ba), (.slice al nl cl), (.slice an nn cn), (.int .i64 fe), (.int .i64 re), (.int .i64 ta), (.int .i64 ad), (.int .i64 cu), (.int .i64 oc), (.int .i64 ic), (.int .i64 la), (.int .i64 lo), (.int .i64 ce), (.slice a0 n0 c0), (.slice a1 n1 c1), (.slice a2 n2 c2)]⟩)) ⟨[], [.seg X1]⟩ (.use 26000017 (.raw (.slice a3 n3 c3)) ⟨[], [.seg X2]⟩ (.con (.con (.con (.con (.no (.pur 10000050 (.int .i64 nm) (.use 30000056 (.raw (.slice (some a4) nl c4)) ⟨[], [.seg X3]⟩ (.pur 22000061 (.pointer (some ⟨b1, o1, none⟩)) (.use 7000063 (sI x1) ⟨[], []⟩ (.pur 22000065 (.pointer (some ⟨b1, o1, none⟩)) (.use 8009999 (.raw (.tuple ⟨[]⟩)) ⟨[(6, .raw b6), (7, .seg Z)], []⟩ (.use 26000068 (.raw (.slice a5 n5 c5)) ⟨[], [.seg X4]⟩ (.no (.pur 10000078 (.int .i64 fr) (.use 17000081 (.raw (.slice a6 n6 c6)) ⟨[], []⟩ (.use 17000084 (.raw (.slice a7 n7 c7)) ⟨[], []⟩ (.use 26000085 (sB true) ⟨[], []⟩ (.con (.con (.con (.pur 10000089 (.int .i64 fe8) (.con (.use 17000090 (.raw (.slice a8 n8 c8)) ⟨[], []⟩ (.con (.con (.con (.pur 10000093 (.int .i64 fe8) (.con (.use 17000094 (.raw (.slice a9 n9 c9)) ⟨[], []⟩ (.con (.use 26000095 (sB true) ⟨[], []⟩ (.con (.con (.con (.con (.con (.pur 10000101 (.int .i64 fe8) (.con (.use 17000102 (.raw (.slice aa na ca)) ⟨[], []⟩ (.con (.con (.con (.con (.pur 10000106 (.int .i64 fe8) (.con (.use 17000107 (.raw (.slice ab nb cb_)) ⟨[], []⟩ (.con (.use 26000108 (sB false) ⟨[], []⟩ (.con (.con (.con (.con .nil))))))))))))))))))))))))))))))))))))))))))))))))))))))
theorem tree22 (u0 u1 u2 u3 u4 u5 u6 : Value) (al an a0 a1 a2 a3 a5 a6 a7 a8 a9 aa ab : Option Addr) (a4 : Addr) (nl nn n0 n1 n2 n3 n5 n6 n7 n8 n9 na nb cl cn c0 c1 c2 c3 c4 c5 c6 c7 c8 c9 ca cb_ b1 o1 : Nat) (k0 k1 k2 k3 k4 k5 k6 k7 k8 k9 k10 k11 k12 y mo ba fe re ta ad cu oc ic la lo ce at_ x1 nm fr fe8 : Int) (b6 : Option Blk) (H X1 X2 X3 X4 Z : Heap) : fnS tbl (gE 0) (cE 0) 400 il22 (hn22 u0 u1 u2 u3 u4 u5 u6 al an a0 a1 a2 a3 a5 a6 a7 a8 a9 aa ab a4 nl nn n0 n1 n2 n3 n5 n6 n7 n8 n9 na nb cl cn c0 c1 c2 c3 c4 c5 c6 c7 c8 c9 ca cb_ b1 o1 k0 k1 k2 k3 k4 k5 k6 k7 k8 k9 k10 k11 k12 y mo ba fe re ta ad cu oc ic la lo ce at_ x1 nm fr fe8 b6 H X1 X2 X3 X4 Z) [(.raw (.agg ⟨[(.int .i64 k0), (.int .i64 k1), (.int .i64 k2), (.int .i64 k3), (.int .i64 k4), (.int .i64 k5), (.int .i64 k6), (.int .i64 k7), (.int .i64 k8), (.int .i64 k9), (.int .i64 k10), (.int .i64 k11), (.int .i64 k12), u0, u1, u2, u3, u4, u5, u6]⟩)), (sI at_)] [.seg H] =
(.claim (opA (Plain.env tbl (gE 0)) (.call 41 [(.const (.agg ⟨[(.int .i64 k0), (.int .i64 k1), (.int .i64 k2), (.int .i64 k3), (.int .i64 k4), (.int .i64 k5), (.int .i64 k6), (.int .i64 k7), (.int .i64 k8), (.int .i64 k9), (.int .i64 k10), (.int .i64 k11), (.int .i64 k12), u0, u1, u2, u3, u4, u5, u6]⟩))]) [] (denH [.seg H, (kB k0 k1 k2 k3 k4 k5 k6 k7 k8 k9 k10 k11 k12 (.raw u0) (.raw u1) (.raw u2) (.raw u3) (.raw u4) (.raw u5) (.raw u6))]) = some ((.agg ⟨[(.int .i64 y), (.int .i64 mo), (.int .i64 ba), (.slice al nl cl), (.slice an nn cn), (.int .i64 fe), (.int .i64 re), (.int .i64 ta), (.int .i64 ad), (.int .i64 cu), (.int .i64 oc), (.int .i64 ic), (.int .i64 la), (.int .i64 lo), (.int .i64 ce), (.slice a0 n0 c0), (.slice a1 n1 c1), (.slice a2 n2 c2)]⟩), denH [.seg H, (kB k0 k1 k2 k3 k4 k5 k6 k7 k8 k9 k10 k11 k12 (.raw u0) (.raw u1) (.raw u2) (.raw u3) (.raw u4) (.raw u5) (.raw u6)), .seg X1]))
 (.claim (opA (Plain.env tbl (gE 0)) (.call 67 [(.const (.agg ⟨[(.int .i64 y), (.int .i64 mo), (.int .i64 ba), (.slice al nl cl), (.slice an nn cn), (.int .i64 fe), (.int .i64 re), (.int .i64 ta), (.int .i64 ad), (.int .i64 cu), (.int .i64 oc), (.int .i64 ic), (.int .i64 la), (.int .i64 lo), (.int .i64 ce), (.slice a0 n0 c0), (.slice a1 n1 c1), (.slice a2 n2 c2)]⟩))]) [] (denH [.seg H, (kB k0 k1 k2 k3 k4 k5 k6 k7 k8 k9 k10 k11 k12 (.raw u0) (.raw u1) (.raw u2) (.raw u3) (.raw u4) (.raw u5) (.raw u6)), .seg X1, (dB y mo ba (.raw (.slice al nl cl)) (.raw (.slice an nn cn)) fe re ta ad cu oc ic la lo ce (.raw (.slice a0 n0 c0)) (.raw (.slice a1 n1 c1)) (.raw (.slice a2 n2 c2)))]) = some ((.slice a3 n3 c3), denH [.seg H, (kB k0 k1 k2 k3 k4 k5 k6 k7 k8 k9 k10 k11 k12 (.raw u0) (.raw u1) (.raw u2) (.raw u3) (.raw u4) (.raw u5) (.raw u6)), .seg X1, (dB y mo ba (.raw (.slice al nl cl)) (.raw (.slice an nn cn)) fe re ta ad cu oc ic la lo ce (.raw (.slice a0 n0 c0)) (.raw (.slice a1 n1 c1)) (.raw (.slice a2 n2 c2))), .seg X2]))
 (.req (!((n3 : Int) != (IntKind.wrap .i64 (8 * (IntKind.wrap .i64 ((IntKind.wrap .i64 ((IntKind.wrap .i64 ((IntKind.wrap .i64 ((IntKind.wrap .i64 ((IntKind.wrap .i64 ((IntKind.wrap .i64 ((IntKind.wrap .i64 ((IntKind.wrap .i64 (14 + (IntKind.wrap .i64 (2 * (nl : Int))))) + 1)) + (IntKind.wrap .i64 (3 * (nn : Int))))) + 1)) + (IntKind.wrap .i64 (2 * (n0 : Int))))) + 1)) + (IntKind.wrap .i64 (2 * (n1 : Int))))) + 1)) + (IntKind.wrap .i64 (2 * (n2 : Int))))))))) (.claim (opA (Plain.env tbl (gE 0)) (.bin .sub (.const (.int .i64 (nl : Int))) (.const (.int .i64 1))) [] [] = some ((.int .i64 nm), []))
 (.req (preWithin 0 nm) (.claim (opA (Plain.env tbl (gE 0)) (.append 2 16 (.const (denV (ofs [.seg H, (kB k0 k1 k2 k3 k4 k5 k6 k7 k8 k9 k10 k11 k12 (.raw u0) (.raw u1) (.raw u2) (.raw u3) (.raw u4) (.raw u5) (.raw u6)), .seg X1, (dB y mo ba (.raw (.slice al nl cl)) (.raw (.slice an nn cn)) fe re ta ad cu oc ic la lo ce (.raw (.slice a0 n0 c0)) (.raw (.slice a1 n1 c1)) (.raw (.slice a2 n2 c2))), .seg X2, (dB y mo ba (.raw (.slice al nl cl)) (.raw (.slice an nn cn)) fe re ta ad cu oc ic la lo ce (.raw (.slice a0 n0 c0)) (.raw (.slice a1 n1 c1)) (.raw (.slice a2 n2 c2))), .blk .fix []]) (.sl 6 0 0 0))) (.const (.slice al nl cl))) [] (denH [.seg H, (kB k0 k1 k2 k3 k4 k5 k6 k7 k8 k9 k10 k11 k12 (.raw u0) (.raw u1) (.raw u2) (.raw u3) (.raw u4) (.raw u5) (.raw u6)), .seg X1, (dB y mo ba (.raw (.slice al nl cl)) (.raw (.slice an nn cn)) fe re ta ad cu oc ic la lo ce (.raw (.slice a0 n0 c0)) (.raw (.slice a1 n1 c1)) (.raw (.slice a2 n2 c2))), .seg X2, (dB y mo ba (.raw (.slice al nl cl)) (.raw (.slice an nn cn)) fe re ta ad cu oc ic la lo ce (.raw (.slice a0 n0 c0)) (.raw (.slice a1 n1 c1)) (.raw (.slice a2 n2 c2))), .blk .fix []]) = some ((.slice (some a4) nl c4), denH [.seg H, (kB k0 k1 k2 k3 k4 k5 k6 k7 k8 k9 k10 k11 k12 (.raw u0) (.raw u1) (.raw u2) (.raw u3) (.raw u4) (.raw u5) (.raw u6)), .seg X1, (dB y mo ba (.raw (.slice al nl cl)) (.raw (.slice an nn cn)) fe re ta ad cu oc ic la lo ce (.raw (.slice a0 n0 c0)) (.raw (.slice a1 n1 c1)) (.raw (.slice a2 n2 c2))), .seg X2, (dB y mo ba (.raw (.slice al nl cl)) (.raw (.slice an nn cn)) fe re ta ad cu oc ic la lo ce (.raw (.slice a0 n0 c0)) (.raw (.slice a1 n1 c1)) (.raw (.slice a2 n2 c2))), .blk .fix [], .seg X3]))
 (.claim (opA (Plain.env tbl (gE 0)) (.iadr 2 none (.const (.slice (some a4) nl c4)) (.const (.int .i64 (wn at_ 0 nm)))) [] [] = some ((.pointer (some ⟨b1, o1, none⟩)), []))
 (.claim (opA (Plain.env tbl (gE 0)) (.load (.const (.pointer (some ⟨b1, (o1 + 1), none⟩))) none) [] (denH [.seg H, (kB k0 k1 k2 k3 k4 k5 k6 k7 k8 k9 k10 k11 k12 (.raw u0) (.raw u1) (.raw u2) (.raw u3) (.raw u4) (.raw u5) (.raw u6)), .seg X1, (dB y mo ba (.raw (.slice al nl cl)) (.raw (.slice an nn cn)) fe re ta ad cu oc ic la lo ce (.raw (.slice a0 n0 c0)) (.raw (.slice a1 n1 c1)) (.raw (.slice a2 n2 c2))), .seg X2, (dB y mo ba (.raw (.slice (some a4) nl c4)) (.raw (.slice an nn cn)) fe re ta ad cu oc ic la lo ce (.raw (.slice a0 n0 c0)) (.raw (.slice a1 n1 c1)) (.raw (.slice a2 n2 c2))), .blk .fix [], .seg X3]) = some ((.int .i64 x1), denH [.seg H, (kB k0 k1 k2 k3 k4 k5 k6 k7 k8 k9 k10 k11 k12 (.raw u0) (.raw u1) (.raw u2) (.raw u3) (.raw u4) (.raw u5) (.raw u6)), .seg X1, (dB y mo ba (.raw (.slice al nl cl)) (.raw (.slice an nn cn)) fe re ta ad cu oc ic la lo ce (.raw (.slice a0 n0 c0)) (.raw (.slice a1 n1 c1)) (.raw (.slice a2 n2 c2))), .seg X2, (dB y mo ba (.raw (.slice (some a4) nl c4)) (.raw (.slice an nn cn)) fe re ta ad cu oc ic la lo ce (.raw (.slice a0 n0 c0)) (.raw (.slice a1 n1 c1)) (.raw (.slice a2 n2 c2))), .blk .fix [], .seg X3]))
 (.claim (opA (Plain.env tbl (gE 0)) (.iadr 2 none (.const (.slice (some a4) nl c4)) (.const (.int .i64 (wn at_ 0 nm)))) [] [] = some ((.pointer (some ⟨b1, o1, none⟩)), []))
 (.claim (List.length Z = List.length X3) (.claim (opA (Plain.env tbl (gE 0)) (.store (.const (.pointer (some ⟨b1, (o1 + 1), none⟩))) (.const (.int .i64 (IntKind.wrap .i64 (x1 + 1)))) 1) [] (denH [.seg H, (kB k0 k1 k2 k3 k4 k5 k6 k7 k8 k9 k10 k11 k12 (.raw u0) (.raw u1) (.raw u2) (.raw u3) (.raw u4) (.raw u5) (.raw u6)), .seg X1, (dB y mo ba (.raw (.slice al nl cl)) (.raw (.slice an nn cn)) fe re ta ad cu oc ic la lo ce (.raw (.slice a0 n0 c0)) (.raw (.slice a1 n1 c1)) (.raw (.slice a2 n2 c2))), .seg X2, (dB y mo ba (.raw (.slice (some a4) nl c4)) (.raw (.slice an nn cn)) fe re ta ad cu oc ic la lo ce (.raw (.slice a0 n0 c0)) (.raw (.slice a1 n1 c1)) (.raw (.slice a2 n2 c2))), .blk .fix [], .seg X3]) = some ((.tuple ⟨[]⟩), denH [.seg H, (kB k0 k1 k2 k3 k4 k5 k6 k7 k8 k9 k10 k11 k12 (.raw u0) (.raw u1) (.raw u2) (.raw u3) (.raw u4) (.raw u5) (.raw u6)), .seg X1, (dB y mo ba (.raw (.slice al nl cl)) (.raw (.slice an nn cn)) fe re ta ad cu oc ic la lo ce (.raw (.slice a0 n0 c0)) (.raw (.slice a1 n1 c1)) (.raw (.slice a2 n2 c2))), .seg X2, (dB y mo ba (.raw (.slice (some a4) nl c4)) (.raw (.slice an nn cn)) fe re ta ad cu oc ic la lo ce (.raw (.slice a0 n0 c0)) (.raw (.slice a1 n1 c1)) (.raw (.slice a2 n2 c2))), .raw b6, .seg Z]))
 (.claim (opA (Plain.env tbl (gE 0)) (.call 67 [(.const (.agg ⟨[(.int .i64 y), (.int .i64 mo), (.int .i64 ba), (.slice (some a4) nl c4), (.slice an nn cn), (.int .i64 fe), (.int .i64 re), (.int .i64 ta), (.int .i64 ad), (.int .i64 cu), (.int .i64 oc), (.int .i64 ic), (.int .i64 la), (.int .i64 lo), (.int .i64 ce), (.slice a0 n0 c0), (.slice a1 n1 c1), (.slice a2 n2 c2)]⟩))]) [] (denH [.seg H, (kB k0 k1 k2 k3 k4 k5 k6 k7 k8 k9 k10 k11 k12 (.raw u0) (.raw u1) (.raw u2) (.raw u3) (.raw u4) (.raw u5) (.raw u6)), .seg X1, (dB y mo ba (.raw (.slice al nl cl)) (.raw (.slice an nn cn)) fe re ta ad cu oc ic la lo ce (.raw (.slice a0 n0 c0)) (.raw (.slice a1 n1 c1)) (.raw (.slice a2 n2 c2))), .seg X2, (dB y mo ba (.raw (.slice (some a4) nl c4)) (.raw (.slice an nn cn)) fe re ta ad cu oc ic la lo ce (.raw (.slice a0 n0 c0)) (.raw (.slice a1 n1 c1)) (.raw (.slice a2 n2 c2))), .raw b6, .seg Z]) = some ((.slice a5 n5 c5), denH [.seg H, (kB k0 k1 k2 k3 k4 k5 k6 k7 k8 k9 k10 k11 k12 (.raw u0) (.raw u1) (.raw u2) (.raw u3) (.raw u4) (.raw u5) (.raw u6)), .seg X1, (dB y mo ba (.raw (.slice al nl cl)) (.raw (.slice an nn cn)) fe re ta ad cu oc ic la lo ce (.raw (.slice a0 n0 c0)) (.raw (.slice a1 n1 c1)) (.raw (.slice a2 n2 c2))), .seg X2, (dB y mo ba (.raw (.slice (some a4) nl c4)) (.raw (.slice an nn cn)) fe re ta ad cu oc ic la lo ce (.raw (.slice a0 n0 c0)) (.raw (.slice a1 n1 c1)) (.raw (.slice a2 n2 c2))), .raw b6, .seg Z, .seg X4]))
 (.req (!((n5 : Int) != (n3 : Int))) (.claim (opA (Plain.env tbl (gE 0)) (.bin .mul (.const (.int .i64 8)) (.const (.int .i64 (IntKind.wrap .i64 ((IntKind.wrap .i64 (14 + (IntKind.wrap .i64 (2 * (wn at_ 0 nm))))) + 1))))) [] [] = some ((.int .i64 fr), []))
 (.req true (.claim (opA (Plain.env tbl (gE 0)) (.slice 1 (.const (.slice a3 n3 c3)) none (some (.const (.int .i64 fr))) none) [] (denH [.seg H, (kB k0 k1 k2 k3 k4 k5 k6 k7 k8 k9 k10 k11 k12 (.raw u0) (.raw u1) (.raw u2) (.raw u3) (.raw u4) (.raw u5) (.raw u6)), .seg X1, (dB y mo ba (.raw (.slice al nl cl)) (.raw (.slice an nn cn)) fe re ta ad cu oc ic la lo ce (.raw (.slice a0 n0 c0)) (.raw (.slice a1 n1 c1)) (.raw (.slice a2 n2 c2))), .seg X2, (dB y mo ba (.raw (.slice (some a4) nl c4)) (.raw (.slice an nn cn)) fe re ta ad cu oc ic la lo ce (.raw (.slice a0 n0 c0)) (.raw (.slice a1 n1 c1)) (.raw (.slice a2 n2 c2))), .raw b6, .seg Z, .seg X4]) = some ((.slice a6 n6 c6), denH [.seg H, (kB k0 k1 k2 k3 k4 k5 k6 k7 k8 k9 k10 k11 k12 (.raw u0) (.raw u1) (.raw u2) (.raw u3) (.raw u4) (.raw u5) (.raw u6)), .seg X1, (dB y mo ba (.raw (.slice al nl cl)) (.raw (.slice an nn cn)) fe re ta ad cu oc ic la lo ce (.raw (.slice a0 n0 c0)) (.raw (.slice a1 n1 c1)) (.raw (.slice a2 n2 c2))), .seg X2, (dB y mo ba (.raw (.slice (some a4) nl c4)) (.raw (.slice an nn cn)) fe re ta ad cu oc ic la lo ce (.raw (.slice a0 n0 c0)) (.raw (.slice a1 n1 c1)) (.raw (.slice a2 n2 c2))), .raw b6, .seg Z, .seg X4]))
 (.claim (opA (Plain.env tbl (gE 0)) (.slice 1 (.const (.slice a5 n5 c5)) none (some (.const (.int .i64 fr))) none) [] (denH [.seg H, (kB k0 k1 k2 k3 k4 k5 k6 k7 k8 k9 k10 k11 k12 (.raw u0) (.raw u1) (.raw u2) (.raw u3) (.raw u4) (.raw u5) (.raw u6)), .seg X1, (dB y mo ba (.raw (.slice al nl cl)) (.raw (.slice an nn cn)) fe re ta ad cu oc ic la lo ce (.raw (.slice a0 n0 c0)) (.raw (.slice a1 n1 c1)) (.raw (.slice a2 n2 c2))), .seg X2, (dB y mo ba (.raw (.slice (some a4) nl c4)) (.raw (.slice an nn cn)) fe re ta ad cu oc ic la lo ce (.raw (.slice a0 n0 c0)) (.raw (.slice a1 n1 c1)) (.raw (.slice a2 n2 c2))), .raw b6, .seg Z, .seg X4]) = some ((.slice a7 n7 c7), denH [.seg H, (kB k0 k1 k2 k3 k4 k5 k6 k7 k8 k9 k10 k11 k12 (.raw u0) (.raw u1) (.raw u2) (.raw u3) (.raw u4) (.raw u5) (.raw u6)), .seg X1, (dB y mo ba (.raw (.slice al nl cl)) (.raw (.slice an nn cn)) fe re ta ad cu oc ic la lo ce (.raw (.slice a0 n0 c0)) (.raw (.slice a1 n1 c1)) (.raw (.slice a2 n2 c2))), .seg X2, (dB y mo ba (.raw (.slice (some a4) nl c4)) (.raw (.slice an nn cn)) fe re ta ad cu oc ic la lo ce (.raw (.slice a0 n0 c0)) (.raw (.slice a1 n1 c1)) (.raw (.slice a2 n2 c2))), .raw b6, .seg Z, .seg X4]))
 (.claim (opA (Plain.env tbl (gE 0)) (.call 27 [(.const (.slice a6 n6 c6)), (.const (.slice a7 n7 c7))]) [] (denH [.seg H, (kB k0 k1 k2 k3 k4 k5 k6 k7 k8 k9 k10 k11 k12 (.raw u0) (.raw u1) (.raw u2) (.raw u3) (.raw u4) (.raw u5) (.raw u6)), .seg X1, (dB y mo ba (.raw (.slice al nl cl)) (.raw (.slice an nn cn)) fe re ta ad cu oc ic la lo ce (.raw (.slice a0 n0 c0)) (.raw (.slice a1 n1 c1)) (.raw (.slice a2 n2 c2))), .seg X2, (dB y mo ba (.raw (.slice (some a4) nl c4)) (.raw (.slice an nn cn)) fe re ta ad cu oc ic la lo ce (.raw (.slice a0 n0 c0)) (.raw (.slice a1 n1 c1)) (.raw (.slice a2 n2 c2))), .raw b6, .seg Z, .seg X4]) = some ((.bool true), denH [.seg H, (kB k0 k1 k2 k3 k4 k5 k6 k7 k8 k9 k10 k11 k12 (.raw u0) (.raw u1) (.raw u2) (.raw u3) (.raw u4) (.raw u5) (.raw u6)), .seg X1, (dB y mo ba (.raw (.slice al nl cl)) (.raw (.slice an nn cn)) fe re ta ad cu oc ic la lo ce (.raw (.slice a0 n0 c0)) (.raw (.slice a1 n1 c1)) (.raw (.slice a2 n2 c2))), .seg X2, (dB y mo ba (.raw (.slice (some a4) nl c4)) (.raw (.slice an nn cn)) fe re ta ad cu oc ic la lo ce (.raw (.slice a0 n0 c0)) (.raw (.slice a1 n1 c1)) (.raw (.slice a2 n2 c2))), .raw b6, .seg Z, .seg X4]))
 (.claim (opA (Plain.env tbl (gE 0)) (.bin .add (.const (.int .i64 fr)) (.const (.int .i64 8))) [] [] = some ((.int .i64 fe8), []))
 (.claim (opA (Plain.env tbl (gE 0)) (.slice 1 (.const (.slice a3 n3 c3)) (some (.const (.int .i64 fe8))) none none) [] (denH [.seg H, (kB k0 k1 k2 k3 k4 k5 k6 k7 k8 k9 k10 k11 k12 (.raw u0) (.raw u1) (.raw u2) (.raw u3) (.raw u4) (.raw u5) (.raw u6)), .seg X1, (dB y mo ba (.raw (.slice al nl cl)) (.raw (.slice an nn cn)) fe re ta ad cu oc ic la lo ce (.raw (.slice a0 n0 c0)) (.raw (.slice a1 n1 c1)) (.raw (.slice a2 n2 c2))), .seg X2, (dB y mo ba (.raw (.slice (some a4) nl c4)) (.raw (.slice an nn cn)) fe re ta ad cu oc ic la lo ce (.raw (.slice a0 n0 c0)) (.raw (.slice a1 n1 c1)) (.raw (.slice a2 n2 c2))), .raw b6, .seg Z, .seg X4]) = some ((.slice a8 n8 c8), denH [.seg H, (kB k0 k1 k2 k3 k4 k5 k6 k7 k8 k9 k10 k11 k12 (.raw u0) (.raw u1) (.raw u2) (.raw u3) (.raw u4) (.raw u5) (.raw u6)), .seg X1, (dB y mo ba (.raw (.slice al nl cl)) (.raw (.slice an nn cn)) fe re ta ad cu oc ic la lo ce (.raw (.slice a0 n0 c0)) (.raw (.slice a1 n1 c1)) (.raw (.slice a2 n2 c2))), .seg X2, (dB y mo ba (.raw (.slice (some a4) nl c4)) (.raw (.slice an nn cn)) fe re ta ad cu oc ic la lo ce (.raw (.slice a0 n0 c0)) (.raw (.slice a1 n1 c1)) (.raw (.slice a2 n2 c2))), .raw b6, .seg Z, .seg X4]))
 (.claim (opA (Plain.env tbl (gE 0)) (.bin .add (.const (.int .i64 fr)) (.const (.int .i64 8))) [] [] = some ((.int .i64 fe8), []))
 (.claim (opA (Plain.env tbl (gE 0)) (.slice 1 (.const (.slice a5 n5 c5)) (some (.const (.int .i64 fe8))) none none) [] (denH [.seg H, (kB k0 k1 k2 k3 k4 k5 k6 k7 k8 k9 k10 k11 k12 (.raw u0) (.raw u1) (.raw u2) (.raw u3) (.raw u4) (.raw u5) (.raw u6)), .seg X1, (dB y mo ba (.raw (.slice al nl cl)) (.raw (.slice an nn cn)) fe re ta ad cu oc ic la lo ce (.raw (.slice a0 n0 c0)) (.raw (.slice a1 n1 c1)) (.raw (.slice a2 n2 c2))), .seg X2, (dB y mo ba (.raw (.slice (some a4) nl c4)) (.raw (.slice an nn cn)) fe re ta ad cu oc ic la lo ce (.raw (.slice a0 n0 c0)) (.raw (.slice a1 n1 c1)) (.raw (.slice a2 n2 c2))), .raw b6, .seg Z, .seg X4]) = some ((.slice a9 n9 c9), denH [.seg H, (kB k0 k1 k2 k3 k4 k5 k6 k7 k8 k9 k10 k11 k12 (.raw u0) (.raw u1) (.raw u2) (.raw u3) (.raw u4) (.raw u5) (.raw u6)), .seg X1, (dB y mo ba (.raw (.slice al nl cl)) (.raw (.slice an nn cn)) fe re ta ad cu oc ic la lo ce (.raw (.slice a0 n0 c0)) (.raw (.slice a1 n1 c1)) (.raw (.slice a2 n2 c2))), .seg X2, (dB y mo ba (.raw (.slice (some a4) nl c4)) (.raw (.slice an nn cn)) fe re ta ad cu oc ic la lo ce (.raw (.slice a0 n0 c0)) (.raw (.slice a1 n1 c1)) (.raw (.slice a2 n2 c2))), .raw b6, .seg Z, .seg X4]))
 (.claim (opA (Plain.env tbl (gE 0)) (.call 27 [(.const (.slice a8 n8 c8)), (.const (.slice a9 n9 c9))]) [] (denH [.seg H, (kB k0 k1 k2 k3 k4 k5 k6 k7 k8 k9 k10 k11 k12 (.raw u0) (.raw u1) (.raw u2) (.raw u3) (.raw u4) (.raw u5) (.raw u6)), .seg X1, (dB y mo ba (.raw (.slice al nl cl)) (.raw (.slice an nn cn)) fe re ta ad cu oc ic la lo ce (.raw (.slice a0 n0 c0)) (.raw (.slice a1 n1 c1)) (.raw (.slice a2 n2 c2))), .seg X2, (dB y mo ba (.raw (.slice (some a4) nl c4)) (.raw (.slice an nn cn)) fe re ta ad cu oc ic la lo ce (.raw (.slice a0 n0 c0)) (.raw (.slice a1 n1 c1)) (.raw (.slice a2 n2 c2))), .raw b6, .seg Z, .seg X4]) = some ((.bool true), denH [.seg H, (kB k0 k1 k2 k3 k4 k5 k6 k7 k8 k9 k10 k11 k12 (.raw u0) (.raw u1) (.raw u2) (.raw u3) (.raw u4) (.raw u5) (.raw u6)), .seg X1, (dB y mo ba (.raw (.slice al nl cl)) (.raw (.slice an nn cn)) fe re ta ad cu oc ic la lo ce (.raw (.slice a0 n0 c0)) (.raw (.slice a1 n1 c1)) (.raw (.slice a2 n2 c2))), .seg X2, (dB y mo ba (.raw (.slice (some a4) nl c4)) (.raw (.slice an nn cn)) fe re ta ad cu oc ic la lo ce (.raw (.slice a0 n0 c0)) (.raw (.slice a1 n1 c1)) (.raw (.slice a2 n2 c2))), .raw b6, .seg Z, .seg X4]))
 (.claim (opA (Plain.env tbl (gE 0)) (.bin .add (.const (.int .i64 fr)) (.const (.int .i64 8))) [] [] = some ((.int .i64 fe8), []))
 (.claim (opA (Plain.env tbl (gE 0)) (.slice 1 (.const (.slice a3 n3 c3)) (some (.const (.int .i64 fr))) (some (.const (.int .i64 fe8))) none) [] (denH [.seg H, (kB k0 k1 k2 k3 k4 k5 k6 k7 k8 k9 k10 k11 k12 (.raw u0) (.raw u1) (.raw u2) (.raw u3) (.raw u4) (.raw u5) (.raw u6)), .seg X1, (dB y mo ba (.raw (.slice al nl cl)) (.raw (.slice an nn cn)) fe re ta ad cu oc ic la lo ce (.raw (.slice a0 n0 c0)) (.raw (.slice a1 n1 c1)) (.raw (.slice a2 n2 c2))), .seg X2, (dB y mo ba (.raw (.slice (some a4) nl c4)) (.raw (.slice an nn cn)) fe re ta ad cu oc ic la lo ce (.raw (.slice a0 n0 c0)) (.raw (.slice a1 n1 c1)) (.raw (.slice a2 n2 c2))), .raw b6, .seg Z, .seg X4]) = some ((.slice aa na ca), denH [.seg H, (kB k0 k1 k2 k3 k4 k5 k6 k7 k8 k9 k10 k11 k12 (.raw u0) (.raw u1) (.raw u2) (.raw u3) (.raw u4) (.raw u5) (.raw u6)), .seg X1, (dB y mo ba (.raw (.slice al nl cl)) (.raw (.slice an nn cn)) fe re ta ad cu oc ic la lo ce (.raw (.slice a0 n0 c0)) (.raw (.slice a1 n1 c1)) (.raw (.slice a2 n2 c2))), .seg X2, (dB y mo ba (.raw (.slice (some a4) nl c4)) (.raw (.slice an nn cn)) fe re ta ad cu oc ic la lo ce (.raw (.slice a0 n0 c0)) (.raw (.slice a1 n1 c1)) (.raw (.slice a2 n2 c2))), .raw b6, .seg Z, .seg X4]))
 (.claim (opA (Plain.env tbl (gE 0)) (.bin .add (.const (.int .i64 fr)) (.const (.int .i64 8))) [] [] = some ((.int .i64 fe8), []))
 (.claim (opA (Plain.env tbl (gE 0)) (.slice 1 (.const (.slice a5 n5 c5)) (some (.const (.int .i64 fr))) (some (.const (.int .i64 fe8))) none) [] (denH [.seg H, (kB k0 k1 k2 k3 k4 k5 k6 k7 k8 k9 k10 k11 k12 (.raw u0) (.raw u1) (.raw u2) (.raw u3) (.raw u4) (.raw u5) (.raw u6)), .seg X1, (dB y mo ba (.raw (.slice al nl cl)) (.raw (.slice an nn cn)) fe re ta ad cu oc ic la lo ce (.raw (.slice a0 n0 c0)) (.raw (.slice a1 n1 c1)) (.raw (.slice a2 n2 c2))), .seg X2, (dB y mo ba (.raw (.slice (some a4) nl c4)) (.raw (.slice an nn cn)) fe re ta ad cu oc ic la lo ce (.raw (.slice a0 n0 c0)) (.raw (.slice a1 n1 c1)) (.raw (.slice a2 n2 c2))), .raw b6, .seg Z, .seg X4]) = some ((.slice ab nb cb_), denH [.seg H, (kB k0 k1 k2 k3 k4 k5 k6 k7 k8 k9 k10 k11 k12 (.raw u0) (.raw u1) (.raw u2) (.raw u3) (.raw u4) (.raw u5) (.raw u6)), .seg X1, (dB y mo ba (.raw (.slice al nl cl)) (.raw (.slice an nn cn)) fe re ta ad cu oc ic la lo ce (.raw (.slice a0 n0 c0)) (.raw (.slice a1 n1 c1)) (.raw (.slice a2 n2 c2))), .seg X2, (dB y mo ba (.raw (.slice (some a4) nl c4)) (.raw (.slice an nn cn)) fe re ta ad cu oc ic la lo ce (.raw (.slice a0 n0 c0)) (.raw (.slice a1 n1 c1)) (.raw (.slice a2 n2 c2))), .raw b6, .seg Z, .seg X4]))
 (.claim (opA (Plain.env tbl (gE 0)) (.call 27 [(.const (.slice aa na ca)), (.const (.slice ab nb cb_))]) [] (denH [.seg H, (kB k0 k1 k2 k3 k4 k5 k6 k7 k8 k9 k10 k11 k12 (.raw u0) (.raw u1) (.raw u2) (.raw u3) (.raw u4) (.raw u5) (.raw u6)), .seg X1, (dB y mo ba (.raw (.slice al nl cl)) (.raw (.slice an nn cn)) fe re ta ad cu oc ic la lo ce (.raw (.slice a0 n0 c0)) (.raw (.slice a1 n1 c1)) (.raw (.slice a2 n2 c2))), .seg X2, (dB y mo ba (.raw (.slice (some a4) nl c4)) (.raw (.slice an nn cn)) fe re ta ad cu oc ic la lo ce (.raw (.slice a0 n0 c0)) (.raw (.slice a1 n1 c1)) (.raw (.slice a2 n2 c2))), .raw b6, .seg Z, .seg X4]) = some ((.bool false), denH [.seg H, (kB k0 k1 k2 k3 k4 k5 k6 k7 k8 k9 k10 k11 k12 (.raw u0) (.raw u1) (.raw u2) (.raw u3) (.raw u4) (.raw u5) (.raw u6)), .seg X1, (dB y mo ba (.raw (.slice al nl cl)) (.raw (.slice an nn cn)) fe re ta ad cu oc ic la lo ce (.raw (.slice a0 n0 c0)) (.raw (.slice a1 n1 c1)) (.raw (.slice a2 n2 c2))), .seg X2, (dB y mo ba (.raw (.slice (some a4) nl c4)) (.raw (.slice an nn cn)) fe re ta ad cu oc ic la lo ce (.raw (.slice a0 n0 c0)) (.raw (.slice a1 n1 c1)) (.raw (.slice a2 n2 c2))), .raw b6, .seg Z, .seg X4]))
 (.req true (.ret .ret [(sB true)] [.seg H, (kB k0 k1 k2 k3 k4 k5 k6 k7 k8 k9 k10 k11 k12 (.raw u0) (.raw u1) (.raw u2) (.raw u3) (.raw u4) (.raw u5) (.raw u6)), .seg X1, (dB y mo ba (.raw (.slice al nl cl)) (.raw (.slice an nn cn)) fe re ta ad cu oc ic la lo ce (.raw (.slice a0 n0 c0)) (.raw (.slice a1 n1 c1)) (.raw (.slice a2 n2 c2))), .seg X2, (dB y mo ba (.raw (.slice (some a4) nl c4)) (.raw (.slice an nn cn)) fe re ta ad cu oc ic la lo ce (.raw (.slice a0 n0 c0)) (.raw (.slice a1 n1 c1)) (.raw (.slice a2 n2 c2))), .raw b6, .seg Z, .seg X4])))))))))))))))))))))))))))))) := by kernel_rfl
theorem call {f : Nat} {args : List Value} {h : Heap} {r : Value × Heap} (ht : tbl.find f args = none) (e : gK f args h = some r) : opA (Plain.env tbl (gE 0)) (.call f (args.map .const)) [] h = some r := opA_call ht e
theorem add_ok (Γ : Env) (x y z : Int) (h : z = IntKind.wrap .i64 (x + y)) : opA Γ (.bin .add (.const (.int .i64 x)) (.const (.int .i64 y))) [] [] = some (.int .i64 z, []) := by subst h; rfl
theorem sub_ok (Γ : Env) (x y z : Int) (h : z = IntKind.wrap .i64 (x - y)) : opA Γ (.bin .sub (.const (.int .i64 x)) (.const (.int .i64 y))) [] [] = some (.int .i64 z, []) := by subst h; rfl
theorem mul_ok (Γ : Env) (x y z : Int) (h : z = IntKind.wrap .i64 (x * y)) : opA Γ (.bin .mul (.const (.int .i64 x)) (.const (.int .i64 y))) [] [] = some (.int .i64 z, []) := by subst h; rfl
theorem split1 {e1 : Option Blk} {X J2 : Heap} (h : J2.length = (e1 :: X).length) : ∃ e Y, J2 = e :: Y ∧ Y.length = X.length := by
  cases J2 with
  | nil => simp at h
  | cons e J => exact ⟨e, J, rfl, by simpa using h⟩
theorem byt_app (a b : List Int) : byt (a ++ b) = byt a ++ byt b := by simp [byt]
theorem wd_inj {x y : Int} (hx : In64 x) (hy : In64 y) (e : wd x = wd y) : x = y := by
  obtain ⟨b0, b1, b2, b3, b4, b5, b6, b7, h⟩ := WI.wd_get x
  rw [← WI.val8_wd hx h, ← WI.val8_wd hy (e ▸ h)]
/-- Where a loan's balance stands. -/
theorem dealI_at {d : DV} {i : Nat} {x : R2} (hx : d.l[i]? = some x) : ∃ A B : List Int, A.length = 15 + 2 * i ∧ dealI d = A ++ x.b :: B ∧ ∀ z, dealI { d with l := d.l.set i ⟨x.a, z⟩ } = A ++ z :: B := by
  obtain ⟨hlt, rfl⟩ := List.getElem?_eq_some_iff.1 hx
  have e : ∀ z : R2, d.l.set i z = d.l.take i ++ z :: d.l.drop (i + 1) := fun z => by rw [List.set_eq_take_append_cons_drop, if_pos hlt]
  have e0 : d.l = d.l.take i ++ d.l[i] :: d.l.drop (i + 1) := by rw [← e, List.set_getElem_self]
  refine ⟨headI d ++ [(d.l.length : Int)] ++ flat2 (d.l.take i) ++ [d.l[i].a], flat2 (d.l.drop (i + 1)) ++ [(d.n.length : Int)] ++ flat3 d.n ++ stepsI d.s0 ++ stepsI d.s1 ++ stepsI d.s2, ?_, ?_, fun z => ?_⟩
  · simp [headI, DE.flat2_len]; omega
  · have h2 : flat2 d.l = flat2 (d.l.take i) ++ [d.l[i].a, d.l[i].b] ++ flat2 (d.l.drop (i + 1)) := by
      refine (congrArg flat2 e0).trans ?_
      simp only [flat2, List.flatMap_append, List.flatMap_cons, List.append_assoc, List.cons_append, List.nil_append]
    simp only [dealI, h2, List.append_assoc, List.cons_append, List.nil_append, List.singleton_append]
  · have h2 : flat2 (d.l.set i ⟨d.l[i].a, z⟩) = flat2 (d.l.take i) ++ [d.l[i].a, z] ++ flat2 (d.l.drop (i + 1)) := by
      rw [e]; simp only [flat2, List.flatMap_append, List.flatMap_cons, List.append_assoc, List.cons_append, List.nil_append]
    simp only [dealI, headI, h2, List.length_set, List.append_assoc, List.cons_append, List.nil_append, List.singleton_append]
set_option maxHeartbeats 8000000 in
theorem law {H : Heap} {v : Value} {k : KV} {at_ : Int} (hk : KW H v k) (hno : k.no.length ≤ 140737488355328) : Sim Try.prog 22 [v, .int .i64 at_] H fun v _ => v = .bool true := by
  have hk' := hk
  obtain ⟨b0, b1, b2, b3, b4, b5, b6, x0, x1, x2, x3, x4, x5, x6, rfl, _⟩ := hk
  obtain ⟨d, ed⟩ : ∃ d, d = dealF k := ⟨_, rfl⟩
  obtain ⟨al, an, a0, a1, a2, cl, cn, c0, c1, c2, X1, g1, hl, hn, h0, h1, h2⟩ := LK.use41 (I := [.seg H, (kB k.k0 k.k1 k.k2 k.k3 k.k4 k.k5 k.k6 k.k7 k.k8 k.k9 k.k10 k.k11 k.k12 (.raw (.slice b0 k.lo.length x0)) (.raw (.slice b1 k.no.length x1)) (.raw (.slice b2 k.ra.length x2)) (.raw (.slice b3 k.rt.length x3)) (.raw (.slice b4 k.z0.length x4)) (.raw (.slice b5 k.z1.length x5)) (.raw (.slice b6 k.z2.length x6)))]) rfl (LK.KW.up hk' _) hno
  rw [← ed] at g1 hl hn h0 h1 h2
  have sm : d.sm := by rw [ed]; exact LK.deal_sm k
  have rt : rightB d = true := by rw [ed]; exact K.deal_right k
  have lm := DE.right_lim rt
  have lL : 1 ≤ d.l.length ∧ d.l.length ≤ 1000 := by
    have := K.loansK_len k
    have e : d.l.length = (K.loansK k).length := by rw [ed]; rfl
    have := lm.l
    omega
  have ln := lm.n
  have ls0 := lm.s0
  have ls1 := lm.s1
  have ls2 := lm.s2
  have r1 : ∀ J, DlW (denH ([.seg H, (kB k.k0 k.k1 k.k2 k.k3 k.k4 k.k5 k.k6 k.k7 k.k8 k.k9 k.k10 k.k11 k.k12 (.raw (.slice b0 k.lo.length x0)) (.raw (.slice b1 k.no.length x1)) (.raw (.slice b2 k.ra.length x2)) (.raw (.slice b3 k.rt.length x3)) (.raw (.slice b4 k.z0.length x4)) (.raw (.slice b5 k.z1.length x5)) (.raw (.slice b6 k.z2.length x6)))] ++ .seg X1 :: J)) (dVal al an a0 a1 a2 d.l.length cl d.n.length cn d.s0.length c0 d.s1.length c1 d.s2.length c2 d) d := fun J => ⟨al, an, a0, a1, a2, cl, cn, c0, c1, c2, rfl, LK.At.at_ hl rfl rfl J, LK.At.at_ hn rfl rfl J, LK.At.at_ h0 rfl rfl J, LK.At.at_ h1 rfl rfl J, LK.At.at_ h2 rfl rfl J⟩
  obtain ⟨a3, c3, X2, g2, q3⟩ := DE.E67.use (I := [.seg H, (kB k.k0 k.k1 k.k2 k.k3 k.k4 k.k5 k.k6 k.k7 k.k8 k.k9 k.k10 k.k11 k.k12 (.raw (.slice b0 k.lo.length x0)) (.raw (.slice b1 k.no.length x1)) (.raw (.slice b2 k.ra.length x2)) (.raw (.slice b3 k.rt.length x3)) (.raw (.slice b4 k.z0.length x4)) (.raw (.slice b5 k.z1.length x5)) (.raw (.slice b6 k.z2.length x6))), .seg X1, (dB d.y d.mo d.ba (.raw (.slice al d.l.length cl)) (.raw (.slice an d.n.length cn)) d.fe d.re d.ta d.ad d.cu d.oc d.ic d.la d.lo d.ce (.raw (.slice a0 d.s0.length c0)) (.raw (.slice a1 d.s1.length c1)) (.raw (.slice a2 d.s2.length c2)))]) rfl (r1 [(dB d.y d.mo d.ba (.raw (.slice al d.l.length cl)) (.raw (.slice an d.n.length cn)) d.fe d.re d.ta d.ad d.cu d.oc d.ic d.la d.lo d.ce (.raw (.slice a0 d.s0.length c0)) (.raw (.slice a1 d.s1.length c1)) (.raw (.slice a2 d.s2.length c2)))]) sm
  obtain ⟨a4, c4, X3, g4, l4⟩ := appNew (I := [.seg H, (kB k.k0 k.k1 k.k2 k.k3 k.k4 k.k5 k.k6 k.k7 k.k8 k.k9 k.k10 k.k11 k.k12 (.raw (.slice b0 k.lo.length x0)) (.raw (.slice b1 k.no.length x1)) (.raw (.slice b2 k.ra.length x2)) (.raw (.slice b3 k.rt.length x3)) (.raw (.slice b4 k.z0.length x4)) (.raw (.slice b5 k.z1.length x5)) (.raw (.slice b6 k.z2.length x6))), .seg X1, (dB d.y d.mo d.ba (.raw (.slice al d.l.length cl)) (.raw (.slice an d.n.length cn)) d.fe d.re d.ta d.ad d.cu d.oc d.ic d.la d.lo d.ce (.raw (.slice a0 d.s0.length c0)) (.raw (.slice a1 d.s1.length c1)) (.raw (.slice a2 d.s2.length c2))), .seg X2, (dB d.y d.mo d.ba (.raw (.slice al d.l.length cl)) (.raw (.slice an d.n.length cn)) d.fe d.re d.ta d.ad d.cu d.oc d.ic d.la d.lo d.ce (.raw (.slice a0 d.s0.length c0)) (.raw (.slice a1 d.s1.length c1)) (.raw (.slice a2 d.s2.length c2)))]) rfl (eby := 16) (w := 2) (LK.At.at_ hl (I := [.seg H, (kB k.k0 k.k1 k.k2 k.k3 k.k4 k.k5 k.k6 k.k7 k.k8 k.k9 k.k10 k.k11 k.k12 (.raw (.slice b0 k.lo.length x0)) (.raw (.slice b1 k.no.length x1)) (.raw (.slice b2 k.ra.length x2)) (.raw (.slice b3 k.rt.length x3)) (.raw (.slice b4 k.z0.length x4)) (.raw (.slice b5 k.z1.length x5)) (.raw (.slice b6 k.z2.length x6)))]) rfl rfl [(dB d.y d.mo d.ba (.raw (.slice al d.l.length cl)) (.raw (.slice an d.n.length cn)) d.fe d.re d.ta d.ad d.cu d.oc d.ic d.la d.lo d.ce (.raw (.slice a0 d.s0.length c0)) (.raw (.slice a1 d.s1.length c1)) (.raw (.slice a2 d.s2.length c2))), .seg X2, (dB d.y d.mo d.ba (.raw (.slice al d.l.length cl)) (.raw (.slice an d.n.length cn)) d.fe d.re d.ta d.ad d.cu d.oc d.ic d.la d.lo d.ce (.raw (.slice a0 d.s0.length c0)) (.raw (.slice a1 d.s1.length c1)) (.raw (.slice a2 d.s2.length c2)))]) (by simp [e2]) (by decide) (by simp; omega) (by simp; omega)
  rw [List.length_map] at g4 l4
  have l5 : LsS 2 (denH [.seg H, (kB k.k0 k.k1 k.k2 k.k3 k.k4 k.k5 k.k6 k.k7 k.k8 k.k9 k.k10 k.k11 k.k12 (.raw (.slice b0 k.lo.length x0)) (.raw (.slice b1 k.no.length x1)) (.raw (.slice b2 k.ra.length x2)) (.raw (.slice b3 k.rt.length x3)) (.raw (.slice b4 k.z0.length x4)) (.raw (.slice b5 k.z1.length x5)) (.raw (.slice b6 k.z2.length x6))), .seg X1, (dB d.y d.mo d.ba (.raw (.slice al d.l.length cl)) (.raw (.slice an d.n.length cn)) d.fe d.re d.ta d.ad d.cu d.oc d.ic d.la d.lo d.ce (.raw (.slice a0 d.s0.length c0)) (.raw (.slice a1 d.s1.length c1)) (.raw (.slice a2 d.s2.length c2))), .seg X2, (dB d.y d.mo d.ba (.raw (.slice (some a4) d.l.length c4)) (.raw (.slice an d.n.length cn)) d.fe d.re d.ta d.ad d.cu d.oc d.ic d.la d.lo d.ce (.raw (.slice a0 d.s0.length c0)) (.raw (.slice a1 d.s1.length c1)) (.raw (.slice a2 d.s2.length c2)))]) (some ⟨.fix, []⟩ :: X3) (.slice (some a4) d.l.length c4) (d.l.map e2) := l4.base (by simp [denH, denL, It.den])
  obtain ⟨i, ei, hi⟩ : ∃ i : Nat, (i : Int) = wn at_ 0 ((d.l.length : Int) - 1) ∧ i < d.l.length := by
    have q1 := wn_lo (x := at_) (lo := 0) (hi := (d.l.length : Int) - 1) (by omega)
    have q2 := wn_hi (x := at_) (lo := 0) (hi := (d.l.length : Int) - 1) (by omega)
    exact ⟨(wn at_ 0 ((d.l.length : Int) - 1)).toNat, by omega, by omega⟩
  obtain ⟨⟨xa, xb⟩, hx⟩ := getE hi
  have xb_b : 0 ≤ xb ∧ xb ≤ 100000 := by
    have := K.loansK_b k ⟨xa, xb⟩ (List.mem_of_getElem? (by rw [← hx, ed]; rfl))
    exact this
  obtain ⟨bb, oo, J2, z1, z2, z3, z4⟩ := l5.set (R := []) (i := i) (f := 1) (r := e2 ⟨xa, xb⟩) (vs := [.int .i64 (xb + 1)]) (by rw [List.getElem?_map, hx]; rfl) (by simp [e2])
  obtain ⟨b6', Z, rfl, zl⟩ := split1 z1
  have es : (d.l.map e2).set i (setL (e2 ⟨xa, xb⟩) 1 [.int .i64 (xb + 1)]) = (d.l.set i ⟨xa, xb + 1⟩).map e2 := by rw [List.map_set]; rfl
  rw [es] at z4
  have eS : denH [.seg H, (kB k.k0 k.k1 k.k2 k.k3 k.k4 k.k5 k.k6 k.k7 k.k8 k.k9 k.k10 k.k11 k.k12 (.raw (.slice b0 k.lo.length x0)) (.raw (.slice b1 k.no.length x1)) (.raw (.slice b2 k.ra.length x2)) (.raw (.slice b3 k.rt.length x3)) (.raw (.slice b4 k.z0.length x4)) (.raw (.slice b5 k.z1.length x5)) (.raw (.slice b6 k.z2.length x6))), .seg X1, (dB d.y d.mo d.ba (.raw (.slice al d.l.length cl)) (.raw (.slice an d.n.length cn)) d.fe d.re d.ta d.ad d.cu d.oc d.ic d.la d.lo d.ce (.raw (.slice a0 d.s0.length c0)) (.raw (.slice a1 d.s1.length c1)) (.raw (.slice a2 d.s2.length c2))), .seg X2, (dB d.y d.mo d.ba (.raw (.slice (some a4) d.l.length c4)) (.raw (.slice an d.n.length cn)) d.fe d.re d.ta d.ad d.cu d.oc d.ic d.la d.lo d.ce (.raw (.slice a0 d.s0.length c0)) (.raw (.slice a1 d.s1.length c1)) (.raw (.slice a2 d.s2.length c2))), .blk .fix [], .seg X3] = denH [.seg H, (kB k.k0 k.k1 k.k2 k.k3 k.k4 k.k5 k.k6 k.k7 k.k8 k.k9 k.k10 k.k11 k.k12 (.raw (.slice b0 k.lo.length x0)) (.raw (.slice b1 k.no.length x1)) (.raw (.slice b2 k.ra.length x2)) (.raw (.slice b3 k.rt.length x3)) (.raw (.slice b4 k.z0.length x4)) (.raw (.slice b5 k.z1.length x5)) (.raw (.slice b6 k.z2.length x6))), .seg X1, (dB d.y d.mo d.ba (.raw (.slice al d.l.length cl)) (.raw (.slice an d.n.length cn)) d.fe d.re d.ta d.ad d.cu d.oc d.ic d.la d.lo d.ce (.raw (.slice a0 d.s0.length c0)) (.raw (.slice a1 d.s1.length c1)) (.raw (.slice a2 d.s2.length c2))), .seg X2, (dB d.y d.mo d.ba (.raw (.slice (some a4) d.l.length c4)) (.raw (.slice an d.n.length cn)) d.fe d.re d.ta d.ad d.cu d.oc d.ic d.la d.lo d.ce (.raw (.slice a0 d.s0.length c0)) (.raw (.slice a1 d.s1.length c1)) (.raw (.slice a2 d.s2.length c2)))] ++ ((some ⟨.fix, []⟩ :: X3) ++ []) := by
    show denH ([.seg H, (kB k.k0 k.k1 k.k2 k.k3 k.k4 k.k5 k.k6 k.k7 k.k8 k.k9 k.k10 k.k11 k.k12 (.raw (.slice b0 k.lo.length x0)) (.raw (.slice b1 k.no.length x1)) (.raw (.slice b2 k.ra.length x2)) (.raw (.slice b3 k.rt.length x3)) (.raw (.slice b4 k.z0.length x4)) (.raw (.slice b5 k.z1.length x5)) (.raw (.slice b6 k.z2.length x6))), .seg X1, (dB d.y d.mo d.ba (.raw (.slice al d.l.length cl)) (.raw (.slice an d.n.length cn)) d.fe d.re d.ta d.ad d.cu d.oc d.ic d.la d.lo d.ce (.raw (.slice a0 d.s0.length c0)) (.raw (.slice a1 d.s1.length c1)) (.raw (.slice a2 d.s2.length c2))), .seg X2, (dB d.y d.mo d.ba (.raw (.slice (some a4) d.l.length c4)) (.raw (.slice an d.n.length cn)) d.fe d.re d.ta d.ad d.cu d.oc d.ic d.la d.lo d.ce (.raw (.slice a0 d.s0.length c0)) (.raw (.slice a1 d.s1.length c1)) (.raw (.slice a2 d.s2.length c2)))] ++ [.blk .fix [], .seg X3]) = _
    rw [denH_app (I := [.seg H, (kB k.k0 k.k1 k.k2 k.k3 k.k4 k.k5 k.k6 k.k7 k.k8 k.k9 k.k10 k.k11 k.k12 (.raw (.slice b0 k.lo.length x0)) (.raw (.slice b1 k.no.length x1)) (.raw (.slice b2 k.ra.length x2)) (.raw (.slice b3 k.rt.length x3)) (.raw (.slice b4 k.z0.length x4)) (.raw (.slice b5 k.z1.length x5)) (.raw (.slice b6 k.z2.length x6))), .seg X1, (dB d.y d.mo d.ba (.raw (.slice al d.l.length cl)) (.raw (.slice an d.n.length cn)) d.fe d.re d.ta d.ad d.cu d.oc d.ic d.la d.lo d.ce (.raw (.slice a0 d.s0.length c0)) (.raw (.slice a1 d.s1.length c1)) (.raw (.slice a2 d.s2.length c2))), .seg X2, (dB d.y d.mo d.ba (.raw (.slice (some a4) d.l.length c4)) (.raw (.slice an d.n.length cn)) d.fe d.re d.ta d.ad d.cu d.oc d.ic d.la d.lo d.ce (.raw (.slice a0 d.s0.length c0)) (.raw (.slice a1 d.s1.length c1)) (.raw (.slice a2 d.s2.length c2)))]) rfl]; simp [denL, It.den]
  have eN : denH [.seg H, (kB k.k0 k.k1 k.k2 k.k3 k.k4 k.k5 k.k6 k.k7 k.k8 k.k9 k.k10 k.k11 k.k12 (.raw (.slice b0 k.lo.length x0)) (.raw (.slice b1 k.no.length x1)) (.raw (.slice b2 k.ra.length x2)) (.raw (.slice b3 k.rt.length x3)) (.raw (.slice b4 k.z0.length x4)) (.raw (.slice b5 k.z1.length x5)) (.raw (.slice b6 k.z2.length x6))), .seg X1, (dB d.y d.mo d.ba (.raw (.slice al d.l.length cl)) (.raw (.slice an d.n.length cn)) d.fe d.re d.ta d.ad d.cu d.oc d.ic d.la d.lo d.ce (.raw (.slice a0 d.s0.length c0)) (.raw (.slice a1 d.s1.length c1)) (.raw (.slice a2 d.s2.length c2))), .seg X2, (dB d.y d.mo d.ba (.raw (.slice (some a4) d.l.length c4)) (.raw (.slice an d.n.length cn)) d.fe d.re d.ta d.ad d.cu d.oc d.ic d.la d.lo d.ce (.raw (.slice a0 d.s0.length c0)) (.raw (.slice a1 d.s1.length c1)) (.raw (.slice a2 d.s2.length c2))), .raw b6', .seg Z] = denH [.seg H, (kB k.k0 k.k1 k.k2 k.k3 k.k4 k.k5 k.k6 k.k7 k.k8 k.k9 k.k10 k.k11 k.k12 (.raw (.slice b0 k.lo.length x0)) (.raw (.slice b1 k.no.length x1)) (.raw (.slice b2 k.ra.length x2)) (.raw (.slice b3 k.rt.length x3)) (.raw (.slice b4 k.z0.length x4)) (.raw (.slice b5 k.z1.length x5)) (.raw (.slice b6 k.z2.length x6))), .seg X1, (dB d.y d.mo d.ba (.raw (.slice al d.l.length cl)) (.raw (.slice an d.n.length cn)) d.fe d.re d.ta d.ad d.cu d.oc d.ic d.la d.lo d.ce (.raw (.slice a0 d.s0.length c0)) (.raw (.slice a1 d.s1.length c1)) (.raw (.slice a2 d.s2.length c2))), .seg X2, (dB d.y d.mo d.ba (.raw (.slice (some a4) d.l.length c4)) (.raw (.slice an d.n.length cn)) d.fe d.re d.ta d.ad d.cu d.oc d.ic d.la d.lo d.ce (.raw (.slice a0 d.s0.length c0)) (.raw (.slice a1 d.s1.length c1)) (.raw (.slice a2 d.s2.length c2)))] ++ ((b6' :: Z) ++ []) := by
    show denH ([.seg H, (kB k.k0 k.k1 k.k2 k.k3 k.k4 k.k5 k.k6 k.k7 k.k8 k.k9 k.k10 k.k11 k.k12 (.raw (.slice b0 k.lo.length x0)) (.raw (.slice b1 k.no.length x1)) (.raw (.slice b2 k.ra.length x2)) (.raw (.slice b3 k.rt.length x3)) (.raw (.slice b4 k.z0.length x4)) (.raw (.slice b5 k.z1.length x5)) (.raw (.slice b6 k.z2.length x6))), .seg X1, (dB d.y d.mo d.ba (.raw (.slice al d.l.length cl)) (.raw (.slice an d.n.length cn)) d.fe d.re d.ta d.ad d.cu d.oc d.ic d.la d.lo d.ce (.raw (.slice a0 d.s0.length c0)) (.raw (.slice a1 d.s1.length c1)) (.raw (.slice a2 d.s2.length c2))), .seg X2, (dB d.y d.mo d.ba (.raw (.slice (some a4) d.l.length c4)) (.raw (.slice an d.n.length cn)) d.fe d.re d.ta d.ad d.cu d.oc d.ic d.la d.lo d.ce (.raw (.slice a0 d.s0.length c0)) (.raw (.slice a1 d.s1.length c1)) (.raw (.slice a2 d.s2.length c2)))] ++ [.raw b6', .seg Z]) = _
    rw [denH_app (I := [.seg H, (kB k.k0 k.k1 k.k2 k.k3 k.k4 k.k5 k.k6 k.k7 k.k8 k.k9 k.k10 k.k11 k.k12 (.raw (.slice b0 k.lo.length x0)) (.raw (.slice b1 k.no.length x1)) (.raw (.slice b2 k.ra.length x2)) (.raw (.slice b3 k.rt.length x3)) (.raw (.slice b4 k.z0.length x4)) (.raw (.slice b5 k.z1.length x5)) (.raw (.slice b6 k.z2.length x6))), .seg X1, (dB d.y d.mo d.ba (.raw (.slice al d.l.length cl)) (.raw (.slice an d.n.length cn)) d.fe d.re d.ta d.ad d.cu d.oc d.ic d.la d.lo d.ce (.raw (.slice a0 d.s0.length c0)) (.raw (.slice a1 d.s1.length c1)) (.raw (.slice a2 d.s2.length c2))), .seg X2, (dB d.y d.mo d.ba (.raw (.slice (some a4) d.l.length c4)) (.raw (.slice an d.n.length cn)) d.fe d.re d.ta d.ad d.cu d.oc d.ic d.la d.lo d.ce (.raw (.slice a0 d.s0.length c0)) (.raw (.slice a1 d.s1.length c1)) (.raw (.slice a2 d.s2.length c2)))]) rfl]; simp [denL, It.den]
  have rr : RowsW 2 (denH [.seg H, (kB k.k0 k.k1 k.k2 k.k3 k.k4 k.k5 k.k6 k.k7 k.k8 k.k9 k.k10 k.k11 k.k12 (.raw (.slice b0 k.lo.length x0)) (.raw (.slice b1 k.no.length x1)) (.raw (.slice b2 k.ra.length x2)) (.raw (.slice b3 k.rt.length x3)) (.raw (.slice b4 k.z0.length x4)) (.raw (.slice b5 k.z1.length x5)) (.raw (.slice b6 k.z2.length x6))), .seg X1, (dB d.y d.mo d.ba (.raw (.slice al d.l.length cl)) (.raw (.slice an d.n.length cn)) d.fe d.re d.ta d.ad d.cu d.oc d.ic d.la d.lo d.ce (.raw (.slice a0 d.s0.length c0)) (.raw (.slice a1 d.s1.length c1)) (.raw (.slice a2 d.s2.length c2))), .seg X2, (dB d.y d.mo d.ba (.raw (.slice (some a4) d.l.length c4)) (.raw (.slice an d.n.length cn)) d.fe d.re d.ta d.ad d.cu d.oc d.ic d.la d.lo d.ce (.raw (.slice a0 d.s0.length c0)) (.raw (.slice a1 d.s1.length c1)) (.raw (.slice a2 d.s2.length c2))), .blk .fix [], .seg X3]) (.slice (some a4) d.l.length c4) (d.l.map e2) := l5.rowsI (I := [.seg H, (kB k.k0 k.k1 k.k2 k.k3 k.k4 k.k5 k.k6 k.k7 k.k8 k.k9 k.k10 k.k11 k.k12 (.raw (.slice b0 k.lo.length x0)) (.raw (.slice b1 k.no.length x1)) (.raw (.slice b2 k.ra.length x2)) (.raw (.slice b3 k.rt.length x3)) (.raw (.slice b4 k.z0.length x4)) (.raw (.slice b5 k.z1.length x5)) (.raw (.slice b6 k.z2.length x6))), .seg X1, (dB d.y d.mo d.ba (.raw (.slice al d.l.length cl)) (.raw (.slice an d.n.length cn)) d.fe d.re d.ta d.ad d.cu d.oc d.ic d.la d.lo d.ce (.raw (.slice a0 d.s0.length c0)) (.raw (.slice a1 d.s1.length c1)) (.raw (.slice a2 d.s2.length c2))), .seg X2, (dB d.y d.mo d.ba (.raw (.slice (some a4) d.l.length c4)) (.raw (.slice an d.n.length cn)) d.fe d.re d.ta d.ad d.cu d.oc d.ic d.la d.lo d.ce (.raw (.slice a0 d.s0.length c0)) (.raw (.slice a1 d.s1.length c1)) (.raw (.slice a2 d.s2.length c2)))]) (K := [.blk .fix [], .seg X3]) rfl (by decide) (by simp [denL, It.den])
  obtain ⟨bb', oo', ra⟩ := rr.rowM hx
  have eb : bb' = bb ∧ oo' = oo := by
    have := (ra.ptr (Plain.env tbl (gE 0)) []).symm.trans (z2 (Plain.env tbl (gE 0)) [])
    simpa using this
  obtain ⟨rfl, rfl⟩ := eb
  have gl := ra.fld (Plain.env tbl (gE 0)) 1 (.int .i64 xb) rfl
  have gs : opA (Plain.env tbl (gE 0)) (.store (.const (.pointer (some ⟨bb', oo' + 1, none⟩))) (.const (.int .i64 (xb + 1))) 1) [] (denH [.seg H, (kB k.k0 k.k1 k.k2 k.k3 k.k4 k.k5 k.k6 k.k7 k.k8 k.k9 k.k10 k.k11 k.k12 (.raw (.slice b0 k.lo.length x0)) (.raw (.slice b1 k.no.length x1)) (.raw (.slice b2 k.ra.length x2)) (.raw (.slice b3 k.rt.length x3)) (.raw (.slice b4 k.z0.length x4)) (.raw (.slice b5 k.z1.length x5)) (.raw (.slice b6 k.z2.length x6))), .seg X1, (dB d.y d.mo d.ba (.raw (.slice al d.l.length cl)) (.raw (.slice an d.n.length cn)) d.fe d.re d.ta d.ad d.cu d.oc d.ic d.la d.lo d.ce (.raw (.slice a0 d.s0.length c0)) (.raw (.slice a1 d.s1.length c1)) (.raw (.slice a2 d.s2.length c2))), .seg X2, (dB d.y d.mo d.ba (.raw (.slice (some a4) d.l.length c4)) (.raw (.slice an d.n.length cn)) d.fe d.re d.ta d.ad d.cu d.oc d.ic d.la d.lo d.ce (.raw (.slice a0 d.s0.length c0)) (.raw (.slice a1 d.s1.length c1)) (.raw (.slice a2 d.s2.length c2))), .blk .fix [], .seg X3]) = some (.tuple ⟨[]⟩, denH [.seg H, (kB k.k0 k.k1 k.k2 k.k3 k.k4 k.k5 k.k6 k.k7 k.k8 k.k9 k.k10 k.k11 k.k12 (.raw (.slice b0 k.lo.length x0)) (.raw (.slice b1 k.no.length x1)) (.raw (.slice b2 k.ra.length x2)) (.raw (.slice b3 k.rt.length x3)) (.raw (.slice b4 k.z0.length x4)) (.raw (.slice b5 k.z1.length x5)) (.raw (.slice b6 k.z2.length x6))), .seg X1, (dB d.y d.mo d.ba (.raw (.slice al d.l.length cl)) (.raw (.slice an d.n.length cn)) d.fe d.re d.ta d.ad d.cu d.oc d.ic d.la d.lo d.ce (.raw (.slice a0 d.s0.length c0)) (.raw (.slice a1 d.s1.length c1)) (.raw (.slice a2 d.s2.length c2))), .seg X2, (dB d.y d.mo d.ba (.raw (.slice (some a4) d.l.length c4)) (.raw (.slice an d.n.length cn)) d.fe d.re d.ta d.ad d.cu d.oc d.ic d.la d.lo d.ce (.raw (.slice a0 d.s0.length c0)) (.raw (.slice a1 d.s1.length c1)) (.raw (.slice a2 d.s2.length c2))), .raw b6', .seg Z]) := by
    rw [eS, eN]; exact z3 _ _ 1 rfl rfl rfl
  obtain ⟨d', ed'⟩ : ∃ d', d' = { d with l := d.l.set i ⟨xa, xb + 1⟩ } := ⟨_, rfl⟩
  have rt' : rightB d' = true := by rw [ed', ed]; exact LK.right_more k (by rw [← ed]; exact hx)
  have sm' : d'.sm := by
    obtain ⟨m0, m1, m2, m3, m4⟩ := sm
    rw [ed']
    exact ⟨by show _ ≤ _; rw [List.length_set]; exact m0, m1, m2, m3, m4⟩
  have rl' : RowsW 2 (denH [.seg H, (kB k.k0 k.k1 k.k2 k.k3 k.k4 k.k5 k.k6 k.k7 k.k8 k.k9 k.k10 k.k11 k.k12 (.raw (.slice b0 k.lo.length x0)) (.raw (.slice b1 k.no.length x1)) (.raw (.slice b2 k.ra.length x2)) (.raw (.slice b3 k.rt.length x3)) (.raw (.slice b4 k.z0.length x4)) (.raw (.slice b5 k.z1.length x5)) (.raw (.slice b6 k.z2.length x6))), .seg X1, (dB d.y d.mo d.ba (.raw (.slice al d.l.length cl)) (.raw (.slice an d.n.length cn)) d.fe d.re d.ta d.ad d.cu d.oc d.ic d.la d.lo d.ce (.raw (.slice a0 d.s0.length c0)) (.raw (.slice a1 d.s1.length c1)) (.raw (.slice a2 d.s2.length c2))), .seg X2, (dB d.y d.mo d.ba (.raw (.slice (some a4) d.l.length c4)) (.raw (.slice an d.n.length cn)) d.fe d.re d.ta d.ad d.cu d.oc d.ic d.la d.lo d.ce (.raw (.slice a0 d.s0.length c0)) (.raw (.slice a1 d.s1.length c1)) (.raw (.slice a2 d.s2.length c2))), .raw b6', .seg Z]) (.slice (some a4) d.l.length c4) ((d.l.set i ⟨xa, xb + 1⟩).map e2) := z4.rowsI (I := [.seg H, (kB k.k0 k.k1 k.k2 k.k3 k.k4 k.k5 k.k6 k.k7 k.k8 k.k9 k.k10 k.k11 k.k12 (.raw (.slice b0 k.lo.length x0)) (.raw (.slice b1 k.no.length x1)) (.raw (.slice b2 k.ra.length x2)) (.raw (.slice b3 k.rt.length x3)) (.raw (.slice b4 k.z0.length x4)) (.raw (.slice b5 k.z1.length x5)) (.raw (.slice b6 k.z2.length x6))), .seg X1, (dB d.y d.mo d.ba (.raw (.slice al d.l.length cl)) (.raw (.slice an d.n.length cn)) d.fe d.re d.ta d.ad d.cu d.oc d.ic d.la d.lo d.ce (.raw (.slice a0 d.s0.length c0)) (.raw (.slice a1 d.s1.length c1)) (.raw (.slice a2 d.s2.length c2))), .seg X2, (dB d.y d.mo d.ba (.raw (.slice (some a4) d.l.length c4)) (.raw (.slice an d.n.length cn)) d.fe d.re d.ta d.ad d.cu d.oc d.ic d.la d.lo d.ce (.raw (.slice a0 d.s0.length c0)) (.raw (.slice a1 d.s1.length c1)) (.raw (.slice a2 d.s2.length c2)))]) (K := [.raw b6', .seg Z]) rfl (by decide) (by simp [denL, It.den])
  have lq : (d.l.set i ⟨xa, xb + 1⟩).length = d.l.length := List.length_set
  obtain ⟨a5, c5, X4, g5, q5⟩ := DE.E67.use (I := [.seg H, (kB k.k0 k.k1 k.k2 k.k3 k.k4 k.k5 k.k6 k.k7 k.k8 k.k9 k.k10 k.k11 k.k12 (.raw (.slice b0 k.lo.length x0)) (.raw (.slice b1 k.no.length x1)) (.raw (.slice b2 k.ra.length x2)) (.raw (.slice b3 k.rt.length x3)) (.raw (.slice b4 k.z0.length x4)) (.raw (.slice b5 k.z1.length x5)) (.raw (.slice b6 k.z2.length x6))), .seg X1, (dB d.y d.mo d.ba (.raw (.slice al d.l.length cl)) (.raw (.slice an d.n.length cn)) d.fe d.re d.ta d.ad d.cu d.oc d.ic d.la d.lo d.ce (.raw (.slice a0 d.s0.length c0)) (.raw (.slice a1 d.s1.length c1)) (.raw (.slice a2 d.s2.length c2))), .seg X2, (dB d.y d.mo d.ba (.raw (.slice (some a4) d.l.length c4)) (.raw (.slice an d.n.length cn)) d.fe d.re d.ta d.ad d.cu d.oc d.ic d.la d.lo d.ce (.raw (.slice a0 d.s0.length c0)) (.raw (.slice a1 d.s1.length c1)) (.raw (.slice a2 d.s2.length c2))), .raw b6', .seg Z]) (v := dVal (some a4) an a0 a1 a2 d.l.length c4 d.n.length cn d.s0.length c0 d.s1.length c1 d.s2.length c2 d) (d := d') rfl (by
    subst ed'
    refine ⟨some a4, an, a0, a1, a2, c4, cn, c0, c1, c2, ?_, ?_, LK.At.at_ hn (I := [.seg H, (kB k.k0 k.k1 k.k2 k.k3 k.k4 k.k5 k.k6 k.k7 k.k8 k.k9 k.k10 k.k11 k.k12 (.raw (.slice b0 k.lo.length x0)) (.raw (.slice b1 k.no.length x1)) (.raw (.slice b2 k.ra.length x2)) (.raw (.slice b3 k.rt.length x3)) (.raw (.slice b4 k.z0.length x4)) (.raw (.slice b5 k.z1.length x5)) (.raw (.slice b6 k.z2.length x6)))]) rfl rfl [(dB d.y d.mo d.ba (.raw (.slice al d.l.length cl)) (.raw (.slice an d.n.length cn)) d.fe d.re d.ta d.ad d.cu d.oc d.ic d.la d.lo d.ce (.raw (.slice a0 d.s0.length c0)) (.raw (.slice a1 d.s1.length c1)) (.raw (.slice a2 d.s2.length c2))), .seg X2, (dB d.y d.mo d.ba (.raw (.slice (some a4) d.l.length c4)) (.raw (.slice an d.n.length cn)) d.fe d.re d.ta d.ad d.cu d.oc d.ic d.la d.lo d.ce (.raw (.slice a0 d.s0.length c0)) (.raw (.slice a1 d.s1.length c1)) (.raw (.slice a2 d.s2.length c2))), .raw b6', .seg Z], LK.At.at_ h0 (I := [.seg H, (kB k.k0 k.k1 k.k2 k.k3 k.k4 k.k5 k.k6 k.k7 k.k8 k.k9 k.k10 k.k11 k.k12 (.raw (.slice b0 k.lo.length x0)) (.raw (.slice b1 k.no.length x1)) (.raw (.slice b2 k.ra.length x2)) (.raw (.slice b3 k.rt.length x3)) (.raw (.slice b4 k.z0.length x4)) (.raw (.slice b5 k.z1.length x5)) (.raw (.slice b6 k.z2.length x6)))]) rfl rfl [(dB d.y d.mo d.ba (.raw (.slice al d.l.length cl)) (.raw (.slice an d.n.length cn)) d.fe d.re d.ta d.ad d.cu d.oc d.ic d.la d.lo d.ce (.raw (.slice a0 d.s0.length c0)) (.raw (.slice a1 d.s1.length c1)) (.raw (.slice a2 d.s2.length c2))), .seg X2, (dB d.y d.mo d.ba (.raw (.slice (some a4) d.l.length c4)) (.raw (.slice an d.n.length cn)) d.fe d.re d.ta d.ad d.cu d.oc d.ic d.la d.lo d.ce (.raw (.slice a0 d.s0.length c0)) (.raw (.slice a1 d.s1.length c1)) (.raw (.slice a2 d.s2.length c2))), .raw b6', .seg Z], LK.At.at_ h1 (I := [.seg H, (kB k.k0 k.k1 k.k2 k.k3 k.k4 k.k5 k.k6 k.k7 k.k8 k.k9 k.k10 k.k11 k.k12 (.raw (.slice b0 k.lo.length x0)) (.raw (.slice b1 k.no.length x1)) (.raw (.slice b2 k.ra.length x2)) (.raw (.slice b3 k.rt.length x3)) (.raw (.slice b4 k.z0.length x4)) (.raw (.slice b5 k.z1.length x5)) (.raw (.slice b6 k.z2.length x6)))]) rfl rfl [(dB d.y d.mo d.ba (.raw (.slice al d.l.length cl)) (.raw (.slice an d.n.length cn)) d.fe d.re d.ta d.ad d.cu d.oc d.ic d.la d.lo d.ce (.raw (.slice a0 d.s0.length c0)) (.raw (.slice a1 d.s1.length c1)) (.raw (.slice a2 d.s2.length c2))), .seg X2, (dB d.y d.mo d.ba (.raw (.slice (some a4) d.l.length c4)) (.raw (.slice an d.n.length cn)) d.fe d.re d.ta d.ad d.cu d.oc d.ic d.la d.lo d.ce (.raw (.slice a0 d.s0.length c0)) (.raw (.slice a1 d.s1.length c1)) (.raw (.slice a2 d.s2.length c2))), .raw b6', .seg Z], LK.At.at_ h2 (I := [.seg H, (kB k.k0 k.k1 k.k2 k.k3 k.k4 k.k5 k.k6 k.k7 k.k8 k.k9 k.k10 k.k11 k.k12 (.raw (.slice b0 k.lo.length x0)) (.raw (.slice b1 k.no.length x1)) (.raw (.slice b2 k.ra.length x2)) (.raw (.slice b3 k.rt.length x3)) (.raw (.slice b4 k.z0.length x4)) (.raw (.slice b5 k.z1.length x5)) (.raw (.slice b6 k.z2.length x6)))]) rfl rfl [(dB d.y d.mo d.ba (.raw (.slice al d.l.length cl)) (.raw (.slice an d.n.length cn)) d.fe d.re d.ta d.ad d.cu d.oc d.ic d.la d.lo d.ce (.raw (.slice a0 d.s0.length c0)) (.raw (.slice a1 d.s1.length c1)) (.raw (.slice a2 d.s2.length c2))), .seg X2, (dB d.y d.mo d.ba (.raw (.slice (some a4) d.l.length c4)) (.raw (.slice an d.n.length cn)) d.fe d.re d.ta d.ad d.cu d.oc d.ic d.la d.lo d.ce (.raw (.slice a0 d.s0.length c0)) (.raw (.slice a1 d.s1.length c1)) (.raw (.slice a2 d.s2.length c2))), .raw b6', .seg Z]⟩
    · show _ = dVal (some a4) an a0 a1 a2 (d.l.set i ⟨xa, xb + 1⟩).length c4 d.n.length cn d.s0.length c0 d.s1.length c1 d.s2.length c2 { d with l := d.l.set i ⟨xa, xb + 1⟩ }
      rw [lq]; rfl
    · show RowsW 2 _ (.slice (some a4) (d.l.set i ⟨xa, xb + 1⟩).length c4) ((d.l.set i ⟨xa, xb + 1⟩).map e2)
      rw [lq]; exact rl') sm'
  obtain ⟨A, B, nA, eD, eE⟩ := dealI_at hx
  have ea : encD d = byt A ++ (wd xb ++ byt B) := by unfold encD; rw [rt, if_pos rfl, eD, byt_app]; rfl
  have eb : encD d' = byt A ++ (wd (xb + 1) ++ byt B) := by unfold encD; rw [rt', if_pos rfl, ed', eE, byt_app]; rfl
  have lA : (byt A).length = 8 * (15 + 2 * i) := by rw [byt_len, nA]
  have n3 : (encD d).length = 8 * (18 + 2 * d.l.length + 3 * d.n.length + 2 * d.s0.length + 2 * d.s1.length + 2 * d.s2.length) := by
    unfold encD; rw [rt, if_pos rfl, byt_len, DE.dealI_len]
  have n5 : (encD d').length = (encD d).length := by rw [ea, eb]; simp; rfl
  have nB : (encD d).length = 8 * (15 + 2 * i) + (8 + (byt B).length) := by rw [ea, List.length_append, List.length_append, lA]; rfl
  have q3u := q3.up rfl [(dB d.y d.mo d.ba (.raw (.slice (some a4) d.l.length c4)) (.raw (.slice an d.n.length cn)) d.fe d.re d.ta d.ad d.cu d.oc d.ic d.la d.lo d.ce (.raw (.slice a0 d.s0.length c0)) (.raw (.slice a1 d.s1.length c1)) (.raw (.slice a2 d.s2.length c2))), .raw b6', .seg Z, .seg X4]
  obtain ⟨v6, t6, p6⟩ := q3u.cutM (lo := 0) (hi := 8 * (15 + 2 * i)) (by omega) (by omega) none (some (.const (.int .i64 (8 * (15 + 2 * i) : Nat)))) (.inl ⟨rfl, rfl⟩) (.inr rfl)
  obtain ⟨v7, t7, p7⟩ := q5.cutM (lo := 0) (hi := 8 * (15 + 2 * i)) (by omega) (by omega) none (some (.const (.int .i64 (8 * (15 + 2 * i) : Nat)))) (.inl ⟨rfl, rfl⟩) (.inr rfl)
  obtain ⟨v8, t8, p8⟩ := q3u.cutM (lo := 8 * (15 + 2 * i) + 8) (hi := (encD d).length) (by omega) (Nat.le_refl _) (some (.const (.int .i64 (8 * (15 + 2 * i) + 8 : Nat)))) none (.inr rfl) (.inl ⟨rfl, rfl⟩)
  obtain ⟨v9, t9, p9⟩ := q5.cutM (lo := 8 * (15 + 2 * i) + 8) (hi := (encD d').length) (by omega) (Nat.le_refl _) (some (.const (.int .i64 (8 * (15 + 2 * i) + 8 : Nat)))) none (.inr rfl) (.inl ⟨rfl, rfl⟩)
  obtain ⟨va, ta, pa⟩ := q3u.cutM (lo := 8 * (15 + 2 * i)) (hi := 8 * (15 + 2 * i) + 8) (by omega) (by omega) (some (.const (.int .i64 (8 * (15 + 2 * i) : Nat)))) (some (.const (.int .i64 (8 * (15 + 2 * i) + 8 : Nat)))) (.inr rfl) (.inr rfl)
  obtain ⟨vb, tb, pb⟩ := q5.cutM (lo := 8 * (15 + 2 * i)) (hi := 8 * (15 + 2 * i) + 8) (by omega) (by omega) (some (.const (.int .i64 (8 * (15 + 2 * i) : Nat)))) (some (.const (.int .i64 (8 * (15 + 2 * i) + 8 : Nat)))) (.inr rfl) (.inr rfl)
  have w8 : ∀ z, (wd z).length = 8 := fun z => rfl
  have k1 : ∀ z, (byt A ++ (wd z ++ byt B)).take (8 * (15 + 2 * i)) = byt A := fun z => by rw [← lA, List.take_left]
  have k2 : ∀ z, (byt A ++ (wd z ++ byt B)).drop (8 * (15 + 2 * i) + 8) = byt B := fun z => by
    rw [← lA, ← List.drop_drop, List.drop_left, ← w8 z, List.drop_left]
  have k3 : ∀ z, ((byt A ++ (wd z ++ byt B)).take (8 * (15 + 2 * i) + 8)).drop (8 * (15 + 2 * i)) = wd z := fun z => by
    rw [← lA, List.take_length_add_append, List.drop_left, ← w8 z, List.take_left]
  rw [List.drop_zero, ea, k1] at p6
  rw [List.drop_zero, eb, k1] at p7
  rw [List.take_length, ea, k2] at p8
  rw [List.take_length, eb, k2] at p9
  rw [ea, k3] at pa
  rw [eb, k3] at pb
  obtain ⟨a6, c6, rfl⟩ := p6.slcM
  obtain ⟨a7, c7, rfl⟩ := p7.slcM
  obtain ⟨a8, c8, rfl⟩ := p8.slcM
  obtain ⟨a9, c9, rfl⟩ := p9.slcM
  obtain ⟨aa, ca, rfl⟩ := pa.slcM
  obtain ⟨ab, cb, rfl⟩ := pb.slcM
  have s1 := callSame br_1 p6 p7 (by omega)
  have s2 := callSame br_1 p8 p9 (by omega)
  have s3 := callSame br_1 pa pb (by rw [w8]; decide)
  rw [same_t rfl] at s1 s2
  rw [same_f fun h => by have := wd_inj (x := xb) (y := xb + 1) ⟨by omega, by omega⟩ ⟨by omega, by omega⟩ h; omega] at s3
  have tr := tree22 (.slice b0 k.lo.length x0) (.slice b1 k.no.length x1) (.slice b2 k.ra.length x2) (.slice b3 k.rt.length x3) (.slice b4 k.z0.length x4) (.slice b5 k.z1.length x5) (.slice b6 k.z2.length x6) al an a0 a1 a2 a3 a5 a6 a7 a8 a9 aa ab a4 d.l.length d.n.length d.s0.length d.s1.length d.s2.length (encD d).length (encD d').length (byt A).length (byt A).length (byt B).length (byt B).length (wd xb).length (wd (xb + 1)).length cl cn c0 c1 c2 c3 c4 c5 c6 c7 c8 c9 ca cb bb' oo' k.k0 k.k1 k.k2 k.k3 k.k4 k.k5 k.k6 k.k7 k.k8 k.k9 k.k10 k.k11 k.k12 d.y d.mo d.ba d.fe d.re d.ta d.ad d.cu d.oc d.ic d.la d.lo d.ce at_ xb ((d.l.length : Int) - 1) ((8 * (15 + 2 * i) : Nat) : Int) ((8 * (15 + 2 * i) + 8 : Nat) : Int) b6' H X1 X2 X3 X4 Z
  rw [← ei, wrap64 (x := xb + 1) (by omega) (by omega)] at tr
  have := fnS_tree (Q := fun v _ => v = .bool true) mixed (gE_ok 0) (gE_q 0) (cE_ok 0) st22 tr ⟨rfl, rfl⟩ ⟨call (args := [_]) rfl g1, ⟨call (args := [_]) rfl g2, ⟨by simp (disch := omega) only [wrap64]; simp; omega, ⟨sub_ok _ _ _ _ (by rw [wrap64 (by omega) (by omega)]), ⟨by simp [preWithin]; omega, ⟨g4 _, ⟨z2 _ _, ⟨gl, ⟨z2 _ _, ⟨zl, ⟨gs, ⟨call (args := [_]) rfl g5, ⟨by simp; omega, ⟨mul_ok _ _ _ _ (by simp (disch := omega) only [wrap64]; omega), ⟨rfl, ⟨t6 _, ⟨t7 _, ⟨call (args := [_, _]) rfl s1, ⟨add_ok _ _ _ _ (by rw [wrap64 (by omega) (by omega)]; omega), ⟨t8 _, ⟨add_ok _ _ _ _ (by rw [wrap64 (by omega) (by omega)]; omega), ⟨t9 _, ⟨call (args := [_, _]) rfl s2, ⟨add_ok _ _ _ _ (by rw [wrap64 (by omega) (by omega)]; omega), ⟨ta _, ⟨add_ok _ _ _ _ (by rw [wrap64 (by omega) (by omega)]; omega), ⟨tb _, ⟨call (args := [_, _]) rfl s3, ⟨rfl, rfl⟩⟩⟩⟩⟩⟩⟩⟩⟩⟩⟩⟩⟩⟩⟩⟩⟩⟩⟩⟩⟩⟩⟩⟩⟩⟩⟩⟩⟩
  rw [show denH [.seg H] = H by simp [denH, denL, It.den]] at this
  exact this
theorem lawA (H : Heap) (xs : List Value) (h : F2 (fun p a => ArgOk H p.1 p.2 a) [(true, [.f (.i .i64), .f (.i .i64), .f (.i .i64), .f (.i .i64), .f (.i .i64), .f (.i .i64), .f (.i .i64), .f (.i .i64), .f (.i .i64), .f (.i .i64), .f (.i .i64), .f (.i .i64), .f (.i .i64), .s 1 [.i .i64], .s 1 [.i .i64], .s 1 [.i .i64], .s 1 [.i .i64], .s 1 [.i .i64], .s 1 [.i .i64], .s 1 [.i .i64]]), (false, [LT.f (.i .i64)])] xs) : Sim Try.prog 22 xs H fun v _ => v = .bool true := by
  cases h with
  | cons h0 h => cases h with
    | cons h1 h => cases h with
      | nil =>
        unfold ArgOk at h0
        rw [if_pos rfl] at h0
        obtain ⟨A, rfl, hA⟩ := h0
        obtain ⟨k, hk, hno⟩ := LK.kv_of hA
        obtain ⟨a, rfl, _⟩ := lt_int (arg_one h1)
        exact law hk hno
end T22
end Go.Proofs.Ytgdojnamjkhknaa
