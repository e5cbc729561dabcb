/-
  The law TapedocOnly: from the bytes on.
-/
import Derived.Test.YtgdojnamjkhknaaTq
import Derived.Test.YtgdojnamjkhknaaSamA
import Derived.Test.YtgdojnamjkhknaaRm
import Derived.Test.YtgdojnamjkhknaaClTapedocRuns
import Derived.Test.YtgdojnamjkhknaaWi
namespace Go.Proofs.Ytgdojnamjkhknaa
open Go.Am
set_option linter.all false
set_option maxRecDepth 100000
namespace TU
def sRuns : List Value → Option (Bool × Value)
  | [] => some (true, .bool true)
  | _ => none
theorem runs_ok : ∀ args v, sRuns args = some (true, v) → args.all (belowV 0) = true ∧ belowV 0 v = true ∧ Sim Try.prog 15 args [] fun v1 _ => v1 = v := fun args v e => by
  unfold sRuns at e
  split at e
  · cases e; exact ⟨rfl, rfl, ClTapedocRuns.sim.mono fun _ _ q => q.1⟩
  · cases e
abbrev tbl : Plain := [(15, sRuns), (30, sWithin)]
theorem tbl_ok : PlainOk Try.prog tbl := .cons runs_ok (.cons (within_ok mixed st30) .nil)
end TU
namespace T17
open TU
open DC (decF)
open TE (encF)
open WI (okI)
noncomputable def gK : Env := fun f => match f with
  | 27 => smry (preSame 1 br) resSame
  | 51 => runE (Plain.env PK.tblP (PK.E1.gE 0)) TL.il51
  | 60 => smry TE.E60.pre TE.E60.res
  | 61 => runE (Plain.env [] (DC.gE 0)) DC.il61
  | 65 => smry R65.pre R65.res
  | 66 => smry T66.pre T66.res
  | _ => fun _ _ => none
theorem gK_ok : EnvOk Try.prog gK := fun f => by
  unfold gK
  split
  · exact S27.sim
  · exact TL.sum51
  · exact TE.E60.summ
  · exact DC.sum61
  · exact R65.summ
  · exact T66.summ
  · exact fun args h v h' e => by cases e
theorem gK_q : QuietEnv qt gK := fun f args h v h' hf e => by cases hf
noncomputable abbrev gE (k : Nat) : Env := inE tbl [] k gK
noncomputable abbrev cE (k : Nat) : CallS := callS tbl [] gK 100 k
theorem gE_q (k : Nat) : QuietEnv qt (Plain.env tbl (gE k)) := Plain.quiet (inE_quiet gK_q (fun f F h => by cases h) k)
theorem gE_ok (k : Nat) : EnvOk Try.prog (Plain.env tbl (gE k)) := Plain.ok tbl_ok (inE_ok (qt := qt) mixed tbl_ok .nil (fun f F h => by cases h) gK_ok gK_q k)
theorem cE_ok (k : Nat) : CallOk (Plain.env tbl (gE k)) (cE k) := callS_ok k
theorem call {f : Nat} {args : List Value} {h : Heap} {r : Value × Heap} (ht : tbl.find f args = none) (e : gK f args h = some r) : opA (Plain.env tbl (gE 0)) (.call f (args.map .const)) [] h = some r := opA_call ht e
/-- cascade/cascadelaw14.TapedocOnly -/
def il17 : FnIL := ⟨126, [.tmp 12],
 .seq (.reg [
    ⟨(some 6), none, .box (.tmp 0)⟩,
    ⟨(some 12), none, .mov (.const (.bool false))⟩])
 (.seq (.dreg [
    ⟨(some 20), none, .mov (.tmp 1)⟩,
    ⟨(some 21), none, .call 30 [(.tmp 20), (.const (.int .i64 1)), (.const (.int .i64 9))]⟩,
    ⟨(some 22), none, .load (.tmp 6) (some 6)⟩,
    ⟨(some 23), none, .call 51 [(.tmp 22)]⟩,
    ⟨(some 24), none, .call 60 [(.tmp 21), (.tmp 23)]⟩,
    ⟨(some 19), none, .mkrow [] 0 []⟩,
    ⟨(some 25), none, .append 1 1 (.tmp 19) (.tmp 24)⟩,
    ⟨(some 13), none, .mov (.tmp 25)⟩] [(2, 1)])
 (.seq (.seq (.reg [
     ⟨(some 26), none, .mov (.tmp 13)⟩,
     ⟨(some 27), none, .len (.tmp 26)⟩,
     ⟨(some 28), none, .bin .eql (.tmp 27) (.const (.int .i64 0))⟩])
  (.ite (.tmp 28)
    (.seq (.reg [
       ⟨(some 12), none, .mov (.const (.bool false))⟩])
    (.ret))
    (.skip)))
 (.seq (.reg [
    ⟨(some 29), none, .mov (.tmp 3)⟩,
    ⟨(some 30), none, .mov (.tmp 13)⟩,
    ⟨(some 31), none, .len (.tmp 30)⟩,
    ⟨(some 32), none, .bin .sub (.tmp 31) (.const (.int .i64 1))⟩,
    ⟨(some 33), none, .call 30 [(.tmp 29), (.const (.int .i64 0)), (.tmp 32)]⟩,
    ⟨(some 14), none, .mov (.tmp 33)⟩])
 (.seq (.seq (.reg [
     ⟨(some 34), none, .mov (.tmp 5)⟩,
     ⟨(some 35), none, .call 30 [(.tmp 34), (.const (.int .i64 0)), (.const (.int .i64 4))]⟩])
  (.block 0
    (.seq (.reg [
       ⟨(some 42), none, .bin .eql (.tmp 35) (.const (.int .i64 0))⟩,
       ⟨(some 41), none, .mov (.tmp 42)⟩])
    (.ite (.tmp 41)
      (.reg [
        ⟨(some 43), none, .mov (.tmp 13)⟩,
        ⟨(some 44), none, .mov (.tmp 14)⟩,
        ⟨(some 45), none, .iadr 1 none (.tmp 43) (.tmp 44)⟩,
        ⟨(some 46), none, .load (.tmp 45) none⟩,
        ⟨(some 47), none, .mov (.tmp 4)⟩,
        ⟨(some 48), none, .bin .xor (.tmp 46) (.tmp 47)⟩,
        ⟨(some 49), none, .iadr 1 none (.tmp 43) (.tmp 44)⟩,
        ⟨none, none, .store (.tmp 49) (.tmp 48) 1⟩])
      (.seq (.reg [
         ⟨(some 51), none, .bin .eql (.tmp 35) (.const (.int .i64 1))⟩,
         ⟨(some 50), none, .mov (.tmp 51)⟩])
      (.ite (.tmp 50)
        (.reg [
          ⟨(some 52), none, .mov (.tmp 13)⟩,
          ⟨(some 53), none, .mov (.tmp 14)⟩,
          ⟨(some 54), none, .slice 1 (.tmp 52) none (some (.tmp 53)) none⟩,
          ⟨(some 13), none, .mov (.tmp 54)⟩])
        (.seq (.reg [
           ⟨(some 56), none, .bin .eql (.tmp 35) (.const (.int .i64 2))⟩,
           ⟨(some 55), none, .mov (.tmp 56)⟩])
        (.ite (.tmp 55)
          (.reg [
            ⟨(some 57), none, .mov (.tmp 13)⟩,
            ⟨(some 58), none, .mov (.tmp 2)⟩,
            ⟨(some 59), none, .mov (.tmp 2)⟩,
            ⟨(some 60), none, .len (.tmp 59)⟩,
            ⟨(some 61), none, .mn (.tmp 60) (.const (.int .i64 20))⟩,
            ⟨(some 62), none, .slice 1 (.tmp 58) none (some (.tmp 61)) none⟩,
            ⟨(some 63), none, .append 1 1 (.tmp 57) (.tmp 62)⟩,
            ⟨(some 13), none, .mov (.tmp 63)⟩])
          (.seq (.reg [
             ⟨(some 65), none, .bin .eql (.tmp 35) (.const (.int .i64 3))⟩,
             ⟨(some 64), none, .mov (.tmp 65)⟩])
          (.ite (.tmp 64)
            (.reg [
              ⟨(some 66), none, .mkrow [] 0 []⟩,
              ⟨(some 67), none, .mov (.tmp 2)⟩,
              ⟨(some 68), none, .mov (.tmp 2)⟩,
              ⟨(some 69), none, .len (.tmp 68)⟩,
              ⟨(some 70), none, .mn (.tmp 69) (.const (.int .i64 200))⟩,
              ⟨(some 71), none, .slice 1 (.tmp 67) none (some (.tmp 70)) none⟩,
              ⟨(some 72), none, .append 1 1 (.tmp 66) (.tmp 71)⟩,
              ⟨(some 13), none, .mov (.tmp 72)⟩])
            (.reg [
              ⟨(some 36), none, .mov (.tmp 13)⟩,
              ⟨(some 37), none, .mov (.tmp 14)⟩,
              ⟨(some 38), none, .bin .quo (.tmp 37) (.const (.int .i64 8))⟩,
              ⟨(some 39), none, .bin .mul (.const (.int .i64 8)) (.tmp 38)⟩,
              ⟨(some 40), none, .slice 1 (.tmp 36) none (some (.tmp 39)) none⟩,
              ⟨(some 13), none, .mov (.tmp 40)⟩])))))))))))
 (.seq (.reg [
    ⟨(some 73), none, .mov (.tmp 13)⟩,
    ⟨(some 74), none, .call 65 [(.tmp 73), (.const (.int .u8 7))]⟩,
    ⟨(some 15), none, .mov (.tmp 74)⟩])
 (.seq (.reg [
    ⟨(some 76), none, .mov (.tmp 15)⟩,
    ⟨(some 77), none, .mov (.tmp 13)⟩,
    ⟨(some 78), none, .len (.tmp 77)⟩,
    ⟨(some 79), none, .slice 1 (.tmp 76) none (some (.tmp 78)) none⟩,
    ⟨(some 80), none, .call 61 [(.tmp 79)]⟩,
    ⟨(some 75), none, .mov (.tmp 80)⟩,
    ⟨(some 81), none, .ext 0 (.tmp 75)⟩,
    ⟨(some 82), none, .ext 1 (.tmp 75)⟩,
    ⟨(some 83), none, .ext 2 (.tmp 75)⟩,
    ⟨(some 16), none, .mov (.tmp 81)⟩,
    ⟨(some 17), none, .mov (.tmp 82)⟩,
    ⟨(some 18), none, .mov (.tmp 83)⟩])
 (.seq (.seq (.reg [
     ⟨(some 84), none, .mov (.tmp 15)⟩,
     ⟨(some 85), none, .mov (.tmp 13)⟩,
     ⟨(some 86), none, .call 66 [(.tmp 84), (.tmp 85), (.const (.int .u8 7))]⟩,
     ⟨(some 87), none, .un .not (.tmp 86)⟩])
  (.ite (.tmp 87)
    (.seq (.reg [
       ⟨(some 12), none, .mov (.const (.bool false))⟩])
    (.ret))
    (.skip)))
 (.seq (.seq (.reg [
     ⟨(some 88), none, .mov (.tmp 18)⟩,
     ⟨(some 89), none, .bin .eql (.tmp 88) (.const (.int .i64 0))⟩])
  (.ite (.tmp 89)
    (.seq (.reg [
       ⟨(some 90), none, .mov (.tmp 16)⟩,
       ⟨(some 91), none, .mov (.tmp 17)⟩,
       ⟨(some 92), none, .call 60 [(.tmp 90), (.tmp 91)]⟩,
       ⟨(some 93), none, .mov (.tmp 13)⟩,
       ⟨(some 94), none, .call 27 [(.tmp 92), (.tmp 93)]⟩,
       ⟨(some 95), none, .mov (.tmp 94)⟩,
       ⟨(some 96), (some (95, true)), .call 15 []⟩,
       ⟨(some 97), none, .pick (.tmp 95) (.tmp 96) (.const (.bool false))⟩,
       ⟨(some 12), none, .mov (.tmp 97)⟩])
    (.ret))
    (.skip)))
 (.seq (.reg [
    ⟨(some 98), none, .mov (.tmp 18)⟩,
    ⟨(some 99), none, .bin .eql (.tmp 98) (.const (.int .i64 1))⟩,
    ⟨(some 100), none, .mov (.tmp 99)⟩,
    ⟨(some 101), (some (100, false)), .mov (.tmp 18)⟩,
    ⟨(some 102), (some (100, false)), .bin .eql (.tmp 101) (.const (.int .i64 3))⟩,
    ⟨(some 103), none, .pick (.tmp 100) (.const (.bool true)) (.tmp 102)⟩,
    ⟨(some 104), none, .mov (.tmp 103)⟩,
    ⟨(some 105), (some (104, true)), .mov (.tmp 13)⟩,
    ⟨(some 106), (some (104, true)), .len (.tmp 105)⟩,
    ⟨(some 107), (some (104, true)), .bin .and (.tmp 106) (.const (.int .i64 7))⟩,
    ⟨(some 108), (some (104, true)), .bin .eql (.tmp 107) (.const (.int .i64 0))⟩,
    ⟨(some 109), (some (104, true)), .mov (.tmp 108)⟩,
    ⟨(some 110), (some (109, false)), .mov (.tmp 18)⟩,
    ⟨(some 111), (some (109, false)), .bin .eql (.tmp 110) (.const (.int .i64 1))⟩,
    ⟨(some 112), (some (104, true)), .pick (.tmp 109) (.const (.bool true)) (.tmp 111)⟩,
    ⟨(some 113), none, .pick (.tmp 104) (.tmp 112) (.const (.bool false))⟩,
    ⟨(some 114), none, .mov (.tmp 113)⟩,
    ⟨(some 115), (some (114, true)), .mov (.tmp 16)⟩,
    ⟨(some 116), (some (114, true)), .bin .eql (.tmp 115) (.const (.int .i64 0))⟩,
    ⟨(some 117), none, .pick (.tmp 114) (.tmp 116) (.const (.bool false))⟩,
    ⟨(some 118), none, .mov (.tmp 117)⟩,
    ⟨(some 119), (some (118, true)), .mov (.tmp 17)⟩,
    ⟨(some 120), (some (118, true)), .len (.tmp 119)⟩,
    ⟨(some 121), (some (118, true)), .bin .eql (.tmp 120) (.const (.int .i64 0))⟩,
    ⟨(some 122), none, .pick (.tmp 118) (.tmp 121) (.const (.bool false))⟩,
    ⟨(some 123), none, .mov (.tmp 122)⟩,
    ⟨(some 124), (some (123, true)), .call 15 []⟩,
    ⟨(some 125), none, .pick (.tmp 123) (.tmp 124) (.const (.bool false))⟩,
    ⟨(some 12), none, .mov (.tmp 125)⟩])
 (.ret))))))))))⟩
theorem st17 : stF Try.prog qt 17 = some il17 := by kernel_rfl
abbrev r17_0 : IL := il17.body
def c17_0 : IL := (splitS 3 r17_0).1
def r17_1 : IL := (splitS 3 r17_0).2
def c17_1 : IL := (splitS 0 r17_1).1
def r17_2 : IL := (splitS 0 r17_1).2
def ca17_1 : IL := (splitS 0 c17_1).1
def cb17_1 : IL := (splitS 0 c17_1).2
def hn17t0 (m : Int) (al ab a4 a5 : Option Addr) (a3 : Addr) (nl cl nb cb_ n3 c3 n4 c4 n5 c5 : Nat) (k7 : Int) (r : Bool) (G X1 X2 X3 : Heap) : Hs := (.use 26000074 (.raw (.slice (some a3) n3 c3)) ⟨[], [.seg X1]⟩ (.use 17000079 (.raw (.slice a4 n4 c4)) ⟨[], []⟩ (.use 26000080 (.raw (.tuple ⟨[(.int .i64 m), (.slice al nl cl), (.int .i64 0)]⟩)) ⟨[], [.seg X2]⟩ (.use 26000086 (sB true) ⟨[], []⟩ (.con (.con (.use 26000092 (.raw (.slice a5 n5 c5)) ⟨[], [.seg X3]⟩ (.use 26000094 (sB true) ⟨[], []⟩ (.con (.con .nil))))))))))
theorem tree17t0 (m : Int) (al ab a4 a5 : Option Addr) (a3 : Addr) (nl cl nb cb_ n3 c3 n4 c4 n5 c5 : Nat) (k7 : Int) (r : Bool) (G X1 X2 X3 : Heap) : pieceS tbl (gE 0) (cE 0) 300 (resLv il17.res) r17_2 (hn17t0 m al ab a4 a5 a3 nl cl nb cb_ n3 c3 n4 c4 n5 c5 k7 r G X1 X2 X3) (frS 126 [(12, (sB false)), (13, (.raw (.slice ab nb cb_)))]) [.seg G] =
(.claim (opA (Plain.env tbl (gE 0)) (.call 65 [(.const (.slice ab nb cb_)), (.const (.int .u8 7))]) [] (denH [.seg G]) = some ((.slice (some a3) n3 c3), denH [.seg G, .seg X1]))
 (.claim (opA (Plain.env tbl (gE 0)) (.slice 1 (.const (.slice (some a3) n3 c3)) none (some (.const (.int .i64 (nb : Int)))) none) [] (denH [.seg G, .seg X1]) = some ((.slice a4 n4 c4), denH [.seg G, .seg X1]))
 (.claim (opA (Plain.env tbl (gE 0)) (.call 61 [(.const (.slice a4 n4 c4))]) [] (denH [.seg G, .seg X1]) = some ((.tuple ⟨[(.int .i64 m), (.slice al nl cl), (.int .i64 0)]⟩), denH [.seg G, .seg X1, .seg X2]))
 (.claim (opA (Plain.env tbl (gE 0)) (.call 66 [(.const (.slice (some a3) n3 c3)), (.const (.slice ab nb cb_)), (.const (.int .u8 7))]) [] (denH [.seg G, .seg X1, .seg X2]) = some ((.bool true), denH [.seg G, .seg X1, .seg X2]))
 (.claim (opA (Plain.env tbl (gE 0)) (.call 60 [(.const (.int .i64 m)), (.const (.slice al nl cl))]) [] (denH [.seg G, .seg X1, .seg X2]) = some ((.slice a5 n5 c5), denH [.seg G, .seg X1, .seg X2, .seg X3]))
 (.claim (opA (Plain.env tbl (gE 0)) (.call 27 [(.const (.slice a5 n5 c5)), (.const (.slice ab nb cb_))]) [] (denH [.seg G, .seg X1, .seg X2, .seg X3]) = some ((.bool true), denH [.seg G, .seg X1, .seg X2, .seg X3]))
 (.req true (.ret .ret (frS 126 [(12, (sB true))]) [.seg G, .seg X1, .seg X2, .seg X3])))))))) := by kernel_rfl
def hn17t1 (m : Int) (al ab a4 a5 : Option Addr) (a3 : Addr) (nl cl nb cb_ n3 c3 n4 c4 n5 c5 : Nat) (k7 : Int) (r : Bool) (G X1 X2 X3 : Heap) : Hs := (.use 26000074 (.raw (.slice (some a3) n3 c3)) ⟨[], [.seg X1]⟩ (.use 17000079 (.raw (.slice a4 n4 c4)) ⟨[], []⟩ (.use 26000080 (.raw (.tuple ⟨[(.int .i64 0), (.slice al nl cl), (.int .i64 1)]⟩)) ⟨[], [.seg X2]⟩ (.use 26000086 (sB true) ⟨[], []⟩ (.con (.con (.con (.con (.con (.con (.con (.con (.pur 10000107 (.int .i64 k7) (.con (.pur 10000108 (.bool r) (.con (.join 3 (.con (.con (.con (.con .nil)))) (.con (.con (.con (.con .nil)))) (.con (.yes (.con (.con (.con (.con (.con (.pur 10000121 (.bool true) (.con (.con (.con .nil))))))))))))))))))))))))))))
theorem tree17t1 (m : Int) (al ab a4 a5 : Option Addr) (a3 : Addr) (nl cl nb cb_ n3 c3 n4 c4 n5 c5 : Nat) (k7 : Int) (r : Bool) (G X1 X2 X3 : Heap) : pieceS tbl (gE 0) (cE 0) 300 (resLv il17.res) r17_2 (hn17t1 m al ab a4 a5 a3 nl cl nb cb_ n3 c3 n4 c4 n5 c5 k7 r G X1 X2 X3) (frS 126 [(12, (sB false)), (13, (.raw (.slice ab nb cb_)))]) [.seg G] =
(.claim (opA (Plain.env tbl (gE 0)) (.call 65 [(.const (.slice ab nb cb_)), (.const (.int .u8 7))]) [] (denH [.seg G]) = some ((.slice (some a3) n3 c3), denH [.seg G, .seg X1]))
 (.claim (opA (Plain.env tbl (gE 0)) (.slice 1 (.const (.slice (some a3) n3 c3)) none (some (.const (.int .i64 (nb : Int)))) none) [] (denH [.seg G, .seg X1]) = some ((.slice a4 n4 c4), denH [.seg G, .seg X1]))
 (.claim (opA (Plain.env tbl (gE 0)) (.call 61 [(.const (.slice a4 n4 c4))]) [] (denH [.seg G, .seg X1]) = some ((.tuple ⟨[(.int .i64 0), (.slice al nl cl), (.int .i64 1)]⟩), denH [.seg G, .seg X1, .seg X2]))
 (.claim (opA (Plain.env tbl (gE 0)) (.call 66 [(.const (.slice (some a3) n3 c3)), (.const (.slice ab nb cb_)), (.const (.int .u8 7))]) [] (denH [.seg G, .seg X1, .seg X2]) = some ((.bool true), denH [.seg G, .seg X1, .seg X2]))
 (.claim (opA (Plain.env tbl (gE 0)) (.bin .and (.const (.int .i64 (nb : Int))) (.const (.int .i64 7))) [] [] = some ((.int .i64 k7), []))
 (.claim (opA (Plain.env tbl (gE 0)) (.bin .eql (.const (.int .i64 k7)) (.const (.int .i64 0))) [] [] = some ((.bool r), []))
 (.req (bif r then true else true) (.req (bif r then true else true) (.claim (opA (Plain.env tbl (gE 0)) (.bin .eql (.const (.int .i64 (nl : Int))) (.const (.int .i64 0))) [] [] = some ((.bool true), []))
 (.req true (.ret .ret (frS 126 [(12, (sB true))]) [.seg G, .seg X1, .seg X2]))))))))))) := by kernel_rfl
def hn17t2 (m : Int) (al ab a4 a5 : Option Addr) (a3 : Addr) (nl cl nb cb_ n3 c3 n4 c4 n5 c5 : Nat) (k7 : Int) (r : Bool) (G X1 X2 X3 : Heap) : Hs := (.use 26000074 (.raw (.slice (some a3) n3 c3)) ⟨[], [.seg X1]⟩ (.use 17000079 (.raw (.slice a4 n4 c4)) ⟨[], []⟩ (.use 26000080 (.raw (.tuple ⟨[(.int .i64 0), (.slice al nl cl), (.int .i64 3)]⟩)) ⟨[], [.seg X2]⟩ (.use 26000086 (sB true) ⟨[], []⟩ (.con (.con (.con (.con (.con (.con (.con (.con (.pur 10000107 (.int .i64 k7) (.con (.pur 10000108 (.bool true) (.con (.con (.con (.con (.con (.con (.con (.con (.con (.con (.con (.con (.pur 10000121 (.bool true) (.con (.con (.con .nil)))))))))))))))))))))))))))))))
theorem tree17t2 (m : Int) (al ab a4 a5 : Option Addr) (a3 : Addr) (nl cl nb cb_ n3 c3 n4 c4 n5 c5 : Nat) (k7 : Int) (r : Bool) (G X1 X2 X3 : Heap) : pieceS tbl (gE 0) (cE 0) 300 (resLv il17.res) r17_2 (hn17t2 m al ab a4 a5 a3 nl cl nb cb_ n3 c3 n4 c4 n5 c5 k7 r G X1 X2 X3) (frS 126 [(12, (sB false)), (13, (.raw (.slice ab nb cb_)))]) [.seg G] =
(.claim (opA (Plain.env tbl (gE 0)) (.call 65 [(.const (.slice ab nb cb_)), (.const (.int .u8 7))]) [] (denH [.seg G]) = some ((.slice (some a3) n3 c3), denH [.seg G, .seg X1]))
 (.claim (opA (Plain.env tbl (gE 0)) (.slice 1 (.const (.slice (some a3) n3 c3)) none (some (.const (.int .i64 (nb : Int)))) none) [] (denH [.seg G, .seg X1]) = some ((.slice a4 n4 c4), denH [.seg G, .seg X1]))
 (.claim (opA (Plain.env tbl (gE 0)) (.call 61 [(.const (.slice a4 n4 c4))]) [] (denH [.seg G, .seg X1]) = some ((.tuple ⟨[(.int .i64 0), (.slice al nl cl), (.int .i64 3)]⟩), denH [.seg G, .seg X1, .seg X2]))
 (.claim (opA (Plain.env tbl (gE 0)) (.call 66 [(.const (.slice (some a3) n3 c3)), (.const (.slice ab nb cb_)), (.const (.int .u8 7))]) [] (denH [.seg G, .seg X1, .seg X2]) = some ((.bool true), denH [.seg G, .seg X1, .seg X2]))
 (.claim (opA (Plain.env tbl (gE 0)) (.bin .and (.const (.int .i64 (nb : Int))) (.const (.int .i64 7))) [] [] = some ((.int .i64 k7), []))
 (.claim (opA (Plain.env tbl (gE 0)) (.bin .eql (.const (.int .i64 k7)) (.const (.int .i64 0))) [] [] = some ((.bool true), []))
 (.claim (opA (Plain.env tbl (gE 0)) (.bin .eql (.const (.int .i64 (nl : Int))) (.const (.int .i64 0))) [] [] = some ((.bool true), []))
 (.req true (.ret .ret (frS 126 [(12, (sB true))]) [.seg G, .seg X1, .seg X2]))))))))) := by kernel_rfl
theorem and7 (n : Nat) (hn : n < 4611686018427387904) (Γ : Env) : opA Γ (.bin .and (.const (.int .i64 n)) (.const (.int .i64 7))) [] [] = some (.int .i64 (n % 8 : Nat), []) := by
  simp only [opA, pureA, ev, binA, intBin, if_true]
  congr 3
  rw [BitVec.toNat_and, BitVec.toNat_ofInt]
  rw [show ((n : Int) % ((2 ^ IntKind.i64.bits : Nat) : Int)).toNat = n from by show ((n : Int) % 18446744073709551616).toNat = n; omega, show (BitVec.ofInt IntKind.i64.bits 7).toNat = 2 ^ 3 - 1 from rfl, Nat.and_two_pow_sub_one_eq_mod]
  exact wrapN (by omega)
theorem eql_ok (Γ : Env) (x y : Int) (q : Bool) (h : q = decide (x = y)) : opA Γ (.bin .eql (.const (.int .i64 x)) (.const (.int .i64 y))) [] [] = some (.bool q, []) := by
  simp only [opA, pureA, ev, binA, intBin, if_true]
  subst h
  congr 3
theorem tail {G : Heap} {ab : Option Addr} {cb_ : Nat} {bs : List Int} (hb : RowsW 1 G (.slice ab bs.length cb_) (bs.map br)) (hi : ∀ x ∈ bs, InB x) (hn : bs.length ≤ 100000) :
    Wp (Plain.env tbl (gE 0)) (resLv il17.res) r17_2 (denF [.seg G] (frS 126 [(12, (sB false)), (13, (.raw (.slice ab bs.length cb_)))])) (denH [.seg G]) fun e s h' => (e = .normal ∨ e = .ret) ∧ ∃ v, resA s h' il17.res = some v ∧ v = .bool true := by
  have h0 : RowsW 1 (denH [.seg G]) (.slice ab bs.length cb_) (bs.map br) := by simpa [denH, denL, It.den] using hb
  obtain ⟨a3, X1, g1, r1⟩ := R65.use (I := [.seg G]) rfl (x := 7) h0 (by omega)
  have r1' : RowsW 1 (denH [.seg G, .seg X1]) (.slice (some a3) (bs ++ List.replicate 80 7).length (bs.length + 80)) ((bs ++ List.replicate 80 7).map br) := by
    rw [List.length_append, List.length_replicate]; exact r1
  obtain ⟨v4, t4, r4⟩ := r1'.cutM (lo := 0) (hi := bs.length) (by omega) (by simp) none (some (.const (.int .i64 bs.length))) (.inl ⟨rfl, rfl⟩) (.inr rfl)
  rw [List.drop_zero, List.take_left] at r4
  rw [List.length_append, List.length_replicate] at t4
  obtain ⟨a4, c4, rfl⟩ := r4.slcM
  obtain ⟨al, cl, X2, g2, hd⟩ := DC.use61 (I := [.seg G, .seg X1]) rfl r4 (by omega)
  have ld := TV.dec_len bs
  have g3 := T66.call (r1.up rfl [.seg X2]) (h0.up rfl [.seg X1, .seg X2]) (by omega)
  rcases TV.dec_cases bs with q | q | ⟨q, ok⟩
  · have e1 := TV.decF_enc hi q
    obtain ⟨m, em⟩ : ∃ m, m = (decF bs).1 := ⟨_, rfl⟩
    obtain ⟨l, el⟩ : ∃ l, l = (decF bs).2.1 := ⟨_, rfl⟩
    rw [← em, ← el] at e1
    rw [← em, ← el, q] at g2
    rw [← el] at hd ld
    obtain ⟨a5, c5, X3, g4, r5⟩ := TE.E60.use (I := [.seg G, .seg X1, .seg X2]) (p := m) rfl hd (by omega)
    rw [e1] at g4 r5
    have g5 := callSame br_1 r5 (h0.up rfl [.seg X1, .seg X2, .seg X3]) (by omega)
    rw [same_t rfl] at g5
    have tr := tree17t0 m al ab a4 a5 a3 l.length cl bs.length cb_ (bs.length + 80) (bs.length + 80) bs.length c4 bs.length c5 0 false G X1 X2 X3
    exact Wp.tree (cE_ok 0) tr ⟨by kernel_rfl, by kernel_rfl⟩ ⟨call (args := [_, _]) rfl g1, t4 _, call (args := [_]) rfl g2, call (args := [_, _, _]) rfl g3, call (args := [_, _]) rfl g4, call (args := [_, _]) rfl g5, rfl, .inr rfl, _, rfl, rfl⟩
  · rw [q] at g2
    have tr := tree17t1 0 al ab a4 none a3 0 cl bs.length cb_ (bs.length + 80) (bs.length + 80) bs.length c4 0 0 (bs.length % 8 : Nat) (decide (((bs.length % 8 : Nat) : Int) = 0)) G X1 X2 []
    exact Wp.tree (cE_ok 0) tr ⟨by kernel_rfl, by kernel_rfl⟩ ⟨call (args := [_, _]) rfl g1, t4 _, call (args := [_]) rfl g2, call (args := [_, _, _]) rfl g3, and7 _ (by omega) _, eql_ok _ _ _ _ rfl, bif_tt _, bif_tt _, eql_ok _ _ _ _ rfl, rfl, .inr rfl, _, rfl, rfl⟩
  · rw [q] at g2
    have h8 : bs.length % 8 = 0 := by unfold okI at ok; simpa using ok
    have tr := tree17t2 0 al ab a4 none a3 0 cl bs.length cb_ (bs.length + 80) (bs.length + 80) bs.length c4 0 0 (bs.length % 8 : Nat) false G X1 X2 []
    exact Wp.tree (cE_ok 0) tr ⟨by kernel_rfl, by kernel_rfl⟩ ⟨call (args := [_, _]) rfl g1, t4 _, call (args := [_]) rfl g2, call (args := [_, _, _]) rfl g3, and7 _ (by omega) _, eql_ok _ _ _ _ (by rw [h8]; rfl), eql_ok _ _ _ _ rfl, rfl, .inr rfl, _, rfl, rfl⟩
end T17
end Go.Proofs.Ytgdojnamjkhknaa
