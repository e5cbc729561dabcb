/-
  The law WordBack: whole numbers come back out of their bytes.
-/
import Derived.Test.YtgdojnamjkhknaaIp
import Derived.Test.YtgdojnamjkhknaaRm
import Derived.Test.YtgdojnamjkhknaaWs
import Derived.Test.YtgdojnamjkhknaaWi
import Derived.Test.YtgdojnamjkhknaaWRn
namespace Go.Proofs.Ytgdojnamjkhknaa
open Go.Am
set_option linter.all false
set_option maxRecDepth 100000
namespace WK
open WB (byt useB preB resB byt_len)
open WI (useI preI resI intsF okI)
def tbl : Plain := [(3, WR.sRuns), (30, sWithin)]
theorem tbl_ok : PlainOk Try.prog tbl := .cons (WR.tbl_ok 3) (.cons (within_ok mixed st30) .nil)
noncomputable def gK : Env := fun f => match f with
  | 23 => smry preB resB
  | 27 => smry (preSame 1 br) resSame
  | 31 => smry R31.pre R31.res
  | 32 => smry preI resI
  | 33 => smry (preSame 1 ir) resSame
  | 34 => smry preB resB
  | 35 => smry T35.pre T35.res
  | _ => fun _ _ => none
theorem gK_ok : EnvOk Try.prog gK := fun f => by
  unfold gK
  split
  · exact WB.summB
  · exact S27.sim
  · exact R31.summ
  · exact WI.summI
  · exact S33.sim
  · exact WS.summ
  · exact T35.summ
  · exact fun args h v h' e => by cases e
theorem gK_q : QuietEnv qt gK := fun f args h v h' hf e => by cases hf
noncomputable abbrev gE (k : Nat) : Env := inE tbl [] k gK
noncomputable abbrev cE (k : Nat) : CallS := callS tbl [] gK 100 k
theorem gE_q (k : Nat) : QuietEnv qt (Plain.env tbl (gE k)) := Plain.quiet (inE_quiet gK_q (fun f F h => by cases h) k)
theorem gE_ok (k : Nat) : EnvOk Try.prog (Plain.env tbl (gE k)) := Plain.ok tbl_ok (inE_ok (qt := qt) mixed tbl_ok .nil (fun f F h => by cases h) gK_ok gK_q k)
theorem cE_ok (k : Nat) : CallOk (Plain.env tbl (gE k)) (cE k) := callS_ok k
/-- cascade/cascadelaw12.WordBack -/
def il6 : FnIL := ⟨114, [.tmp 6],
 .seq (.reg [
    ⟨(some 6), none, .mov (.const (.bool false))⟩])
 (.seq (.reg [
    ⟨(some 18), none, .mkrow [] 0 []⟩,
    ⟨(some 19), none, .mov (.tmp 0)⟩,
    ⟨(some 20), none, .mov (.tmp 0)⟩,
    ⟨(some 21), none, .len (.tmp 20)⟩,
    ⟨(some 22), none, .mn (.tmp 21) (.const (.int .i64 20))⟩,
    ⟨(some 23), none, .slice 1 (.tmp 19) none (some (.tmp 22)) none⟩,
    ⟨(some 24), none, .append 1 8 (.tmp 18) (.tmp 23)⟩,
    ⟨(some 7), none, .mov (.tmp 24)⟩])
 (.seq (.reg [
    ⟨(some 25), none, .mov (.tmp 7)⟩,
    ⟨(some 26), none, .call 31 [(.tmp 25), (.const (.int .i64 7))]⟩,
    ⟨(some 8), none, .mov (.tmp 26)⟩])
 (.seq (.reg [
    ⟨(some 27), none, .mov (.tmp 8)⟩,
    ⟨(some 28), none, .mov (.tmp 7)⟩,
    ⟨(some 29), none, .len (.tmp 28)⟩,
    ⟨(some 30), none, .slice 1 (.tmp 27) none (some (.tmp 29)) none⟩,
    ⟨(some 31), none, .call 23 [(.tmp 30)]⟩,
    ⟨(some 9), none, .mov (.tmp 31)⟩])
 (.seq (.reg [
    ⟨(some 33), none, .mov (.tmp 9)⟩,
    ⟨(some 34), none, .call 32 [(.tmp 33)]⟩,
    ⟨(some 32), none, .mov (.tmp 34)⟩,
    ⟨(some 35), none, .ext 0 (.tmp 32)⟩,
    ⟨(some 36), none, .ext 1 (.tmp 32)⟩,
    ⟨(some 10), none, .mov (.tmp 35)⟩,
    ⟨(some 11), none, .mov (.tmp 36)⟩])
 (.seq (.reg [
    ⟨(some 37), none, .mov (.tmp 1)⟩,
    ⟨(some 38), none, .mov (.tmp 1)⟩,
    ⟨(some 39), none, .len (.tmp 38)⟩,
    ⟨(some 40), none, .mn (.tmp 39) (.const (.int .i64 80))⟩,
    ⟨(some 41), none, .slice 1 (.tmp 37) none (some (.tmp 40)) none⟩,
    ⟨(some 12), none, .mov (.tmp 41)⟩])
 (.seq (.reg [
    ⟨(some 43), none, .mov (.tmp 12)⟩,
    ⟨(some 44), none, .call 32 [(.tmp 43)]⟩,
    ⟨(some 42), none, .mov (.tmp 44)⟩,
    ⟨(some 45), none, .ext 0 (.tmp 42)⟩,
    ⟨(some 46), none, .ext 1 (.tmp 42)⟩,
    ⟨(some 13), none, .mov (.tmp 45)⟩,
    ⟨(some 14), none, .mov (.tmp 46)⟩])
 (.seq (.seq (.reg [
     ⟨(some 47), none, .mov (.tmp 11)⟩,
     ⟨(some 48), none, .un .not (.tmp 47)⟩,
     ⟨(some 49), none, .mov (.tmp 48)⟩,
     ⟨(some 50), (some (49, false)), .mov (.tmp 10)⟩,
     ⟨(some 51), (some (49, false)), .mov (.tmp 7)⟩,
     ⟨(some 52), (some (49, false)), .call 33 [(.tmp 50), (.tmp 51)]⟩,
     ⟨(some 53), (some (49, false)), .un .not (.tmp 52)⟩,
     ⟨(some 54), none, .pick (.tmp 49) (.const (.bool true)) (.tmp 53)⟩,
     ⟨(some 55), none, .mov (.tmp 54)⟩,
     ⟨(some 56), (some (55, false)), .mov (.tmp 9)⟩,
     ⟨(some 57), (some (55, false)), .mov (.tmp 7)⟩,
     ⟨(some 58), (some (55, false)), .call 34 [(.tmp 57)]⟩,
     ⟨(some 59), (some (55, false)), .call 27 [(.tmp 56), (.tmp 58)]⟩,
     ⟨(some 60), (some (55, false)), .un .not (.tmp 59)⟩,
     ⟨(some 61), none, .pick (.tmp 55) (.const (.bool true)) (.tmp 60)⟩,
     ⟨(some 62), none, .mov (.tmp 61)⟩,
     ⟨(some 63), (some (62, false)), .mov (.tmp 8)⟩,
     ⟨(some 64), (some (62, false)), .mov (.tmp 7)⟩,
     ⟨(some 65), (some (62, false)), .call 35 [(.tmp 63), (.tmp 64), (.const (.int .i64 7))]⟩,
     ⟨(some 66), (some (62, false)), .un .not (.tmp 65)⟩,
     ⟨(some 67), none, .pick (.tmp 62) (.const (.bool true)) (.tmp 66)⟩,
     ⟨(some 68), none, .mov (.tmp 67)⟩,
     ⟨(some 69), (some (68, false)), .mov (.tmp 14)⟩,
     ⟨(some 70), (some (68, false)), .mov (.tmp 12)⟩,
     ⟨(some 71), (some (68, false)), .len (.tmp 70)⟩,
     ⟨(some 72), (some (68, false)), .bin .and (.tmp 71) (.const (.int .i64 7))⟩,
     ⟨(some 73), (some (68, false)), .bin .eql (.tmp 72) (.const (.int .i64 0))⟩,
     ⟨(some 74), (some (68, false)), .eqv true .bool (.tmp 69) (.tmp 73)⟩,
     ⟨(some 75), none, .pick (.tmp 68) (.const (.bool true)) (.tmp 74)⟩,
     ⟨(some 76), none, .mov (.tmp 75)⟩,
     ⟨(some 77), (some (76, false)), .mov (.tmp 14)⟩,
     ⟨(some 78), (some (76, false)), .mov (.tmp 77)⟩,
     ⟨(some 79), (some (78, true)), .mov (.tmp 13)⟩,
     ⟨(some 80), (some (78, true)), .call 23 [(.tmp 79)]⟩,
     ⟨(some 81), (some (78, true)), .mov (.tmp 12)⟩,
     ⟨(some 82), (some (78, true)), .call 27 [(.tmp 80), (.tmp 81)]⟩,
     ⟨(some 83), (some (78, true)), .un .not (.tmp 82)⟩,
     ⟨(some 84), (some (76, false)), .pick (.tmp 78) (.tmp 83) (.const (.bool false))⟩,
     ⟨(some 85), none, .pick (.tmp 76) (.const (.bool true)) (.tmp 84)⟩,
     ⟨(some 86), none, .mov (.tmp 85)⟩,
     ⟨(some 87), (some (86, false)), .mov (.tmp 14)⟩,
     ⟨(some 88), (some (86, false)), .un .not (.tmp 87)⟩,
     ⟨(some 89), (some (86, false)), .mov (.tmp 88)⟩,
     ⟨(some 90), (some (89, true)), .mov (.tmp 13)⟩,
     ⟨(some 91), (some (89, true)), .len (.tmp 90)⟩,
     ⟨(some 92), (some (89, true)), .bin .neq (.tmp 91) (.const (.int .i64 0))⟩,
     ⟨(some 93), (some (86, false)), .pick (.tmp 89) (.tmp 92) (.const (.bool false))⟩,
     ⟨(some 94), none, .pick (.tmp 86) (.const (.bool true)) (.tmp 93)⟩])
  (.ite (.tmp 94)
    (.seq (.reg [
       ⟨(some 6), none, .mov (.const (.bool false))⟩])
    (.ret))
    (.skip)))
 (.seq (.reg [
    ⟨(some 95), none, .mov (.tmp 2)⟩,
    ⟨(some 96), none, .mov (.tmp 9)⟩,
    ⟨(some 97), none, .len (.tmp 96)⟩,
    ⟨(some 98), none, .call 30 [(.tmp 95), (.const (.int .i64 0)), (.tmp 97)]⟩,
    ⟨(some 15), none, .mov (.tmp 98)⟩])
 (.seq (.reg [
    ⟨(some 100), none, .mov (.tmp 9)⟩,
    ⟨(some 101), none, .mov (.tmp 15)⟩,
    ⟨(some 102), none, .slice 1 (.tmp 100) none (some (.tmp 101)) none⟩,
    ⟨(some 103), none, .call 32 [(.tmp 102)]⟩,
    ⟨(some 99), none, .mov (.tmp 103)⟩,
    ⟨(some 104), none, .ext 0 (.tmp 99)⟩,
    ⟨(some 105), none, .ext 1 (.tmp 99)⟩,
    ⟨(some 16), none, .mov (.tmp 104)⟩,
    ⟨(some 17), none, .mov (.tmp 105)⟩])
 (.seq (.reg [
    ⟨(some 106), none, .mov (.tmp 17)⟩,
    ⟨(some 107), none, .mov (.tmp 15)⟩,
    ⟨(some 108), none, .bin .and (.tmp 107) (.const (.int .i64 7))⟩,
    ⟨(some 109), none, .bin .eql (.tmp 108) (.const (.int .i64 0))⟩,
    ⟨(some 110), none, .eqv false .bool (.tmp 106) (.tmp 109)⟩,
    ⟨(some 111), none, .mov (.tmp 110)⟩,
    ⟨(some 112), (some (111, true)), .call 3 []⟩,
    ⟨(some 113), none, .pick (.tmp 111) (.tmp 112) (.const (.bool false))⟩,
    ⟨(some 6), none, .mov (.tmp 113)⟩])
 (.ret)))))))))))⟩
theorem st6 : stF Try.prog qt 6 = some il6 := by kernel_rfl
def hn6y (al ab a1 a4 a5 a6 a7 a8 a9 a10 a11 a12 : Option Addr) (a2 a3 : Addr) (nl nb n1 n2 n3 n4 n5 n6 n7 n8 n9 n10 n11 n12 cl cb_ c1 c2 c3 c4 c5 c6 c7 c8 c9 c10 c11 c12 : Nat) (cut k1 k2 k3 k4 : Int) (r : Bool) (H X1 X2 X3 X4 X5 X6 X7 X8 : Heap) : Hs := (.pur 32000022 (.int .i64 k1) (.bas 17000023 (.slice a1 n1 c1) (.use 30000024 (.raw (.slice (some a2) n2 c2)) ⟨[], [.seg X1]⟩ (.use 26000026 (.raw (.slice (some a3) n3 c3)) ⟨[], [.seg X2]⟩ (.use 17000030 (.raw (.slice a4 n4 c4)) ⟨[], []⟩ (.use 26000031 (.raw (.slice a5 n5 c5)) ⟨[], [.seg X3]⟩ (.use 26000034 (.raw (.tuple ⟨[(.slice a6 n6 c6), (.bool true)]⟩)) ⟨[], [.seg X4]⟩ (.pur 32000040 (.int .i64 k2) (.bas 17000041 (.slice a7 n7 c7) (.use 26000044 (.raw (.tuple ⟨[(.slice a8 n8 c8), (.bool true)]⟩)) ⟨[], [.seg X5]⟩ (.con (.con (.con (.use 26000052 (sB true) ⟨[], []⟩ (.con (.con (.con (.con (.con (.use 26000058 (.raw (.slice a9 n9 c9)) ⟨[], [.seg X6]⟩ (.con (.use 26000059 (sB true) ⟨[], []⟩ (.con (.con (.con (.con (.con (.use 26000065 (sB true) ⟨[], []⟩ (.con (.con (.con (.con (.con (.con (.pur 10000072 (.int .i64 k3) (.con (.pur 10000073 (.bool true) (.con (.con (.con (.con (.con (.con (.use 26000080 (.raw (.slice a10 n10 c10)) ⟨[], [.seg X7]⟩ (.con (.con (.use 26000082 (sB true) ⟨[], []⟩ (.con (.con (.con (.con (.con (.con (.con (.con (.con (.con (.con (.con (.con (.con (.use 17000102 (.raw (.slice a11 n11 c11)) ⟨[], []⟩ (.use 26000103 (.raw (.tuple ⟨[(.slice a12 n12 c12), (.bool r)]⟩)) ⟨[], [.seg X8]⟩ (.pur 10000108 (.int .i64 k4) (.pur 10000109 (.bool r) (.pur 11000110 (.bool true) (.con (.con .nil))))))))))))))))))))))))))))))))))))))))))))))))))))))))))))))))))))
theorem tree6y (al ab a1 a4 a5 a6 a7 a8 a9 a10 a11 a12 : Option Addr) (a2 a3 : Addr) (nl nb n1 n2 n3 n4 n5 n6 n7 n8 n9 n10 n11 n12 cl cb_ c1 c2 c3 c4 c5 c6 c7 c8 c9 c10 c11 c12 : Nat) (cut k1 k2 k3 k4 : Int) (r : Bool) (H X1 X2 X3 X4 X5 X6 X7 X8 : Heap) : fnS tbl (gE 0) (cE 0) 300 il6 (hn6y al ab a1 a4 a5 a6 a7 a8 a9 a10 a11 a12 a2 a3 nl nb n1 n2 n3 n4 n5 n6 n7 n8 n9 n10 n11 n12 cl cb_ c1 c2 c3 c4 c5 c6 c7 c8 c9 c10 c11 c12 cut k1 k2 k3 k4 r H X1 X2 X3 X4 X5 X6 X7 X8) [(.raw (.slice al nl cl)), (.raw (.slice ab nb cb_)), (sI cut)] [.seg H] =
(.claim (opA (Plain.env tbl (gE 0)) (.mn (.const (.int .i64 (nl : Int))) (.const (.int .i64 20))) [] [] = some ((.int .i64 k1), []))
 (.claim (opA (Plain.env tbl (gE 0)) (.slice 1 (.const (.slice al nl cl)) none (some (.const (.int .i64 k1))) none) [] H = some ((.slice a1 n1 c1), H))
 (.claim (opA (Plain.env tbl (gE 0)) (.append 1 8 (.const (denV (ofs [.seg H, .blk .fix []]) (.sl 1 0 0 0))) (.const (.slice a1 n1 c1))) [] (denH [.seg H, .blk .fix []]) = some ((.slice (some a2) n2 c2), denH [.seg H, .blk .fix [], .seg X1]))
 (.claim (opA (Plain.env tbl (gE 0)) (.call 31 [(.const (.slice (some a2) n2 c2)), (.const (.int .i64 7))]) [] (denH [.seg H, .blk .fix [], .seg X1]) = some ((.slice (some a3) n3 c3), denH [.seg H, .blk .fix [], .seg X1, .seg X2]))
 (.claim (opA (Plain.env tbl (gE 0)) (.slice 1 (.const (.slice (some a3) n3 c3)) none (some (.const (.int .i64 (n2 : Int)))) none) [] (denH [.seg H, .blk .fix [], .seg X1, .seg X2]) = some ((.slice a4 n4 c4), denH [.seg H, .blk .fix [], .seg X1, .seg X2]))
 (.claim (opA (Plain.env tbl (gE 0)) (.call 23 [(.const (.slice a4 n4 c4))]) [] (denH [.seg H, .blk .fix [], .seg X1, .seg X2]) = some ((.slice a5 n5 c5), denH [.seg H, .blk .fix [], .seg X1, .seg X2, .seg X3]))
 (.claim (opA (Plain.env tbl (gE 0)) (.call 32 [(.const (.slice a5 n5 c5))]) [] (denH [.seg H, .blk .fix [], .seg X1, .seg X2, .seg X3]) = some ((.tuple ⟨[(.slice a6 n6 c6), (.bool true)]⟩), denH [.seg H, .blk .fix [], .seg X1, .seg X2, .seg X3, .seg X4]))
 (.claim (opA (Plain.env tbl (gE 0)) (.mn (.const (.int .i64 (nb : Int))) (.const (.int .i64 80))) [] [] = some ((.int .i64 k2), []))
 (.claim (opA (Plain.env tbl (gE 0)) (.slice 1 (.const (.slice ab nb cb_)) none (some (.const (.int .i64 k2))) none) [] H = some ((.slice a7 n7 c7), H))
 (.claim (opA (Plain.env tbl (gE 0)) (.call 32 [(.const (.slice a7 n7 c7))]) [] (denH [.seg H, .blk .fix [], .seg X1, .seg X2, .seg X3, .seg X4]) = some ((.tuple ⟨[(.slice a8 n8 c8), (.bool true)]⟩), denH [.seg H, .blk .fix [], .seg X1, .seg X2, .seg X3, .seg X4, .seg X5]))
 (.claim (opA (Plain.env tbl (gE 0)) (.call 33 [(.const (.slice a6 n6 c6)), (.const (.slice (some a2) n2 c2))]) [] (denH [.seg H, .blk .fix [], .seg X1, .seg X2, .seg X3, .seg X4, .seg X5]) = some ((.bool true), denH [.seg H, .blk .fix [], .seg X1, .seg X2, .seg X3, .seg X4, .seg X5]))
 (.claim (opA (Plain.env tbl (gE 0)) (.call 34 [(.const (.slice (some a2) n2 c2))]) [] (denH [.seg H, .blk .fix [], .seg X1, .seg X2, .seg X3, .seg X4, .seg X5]) = some ((.slice a9 n9 c9), denH [.seg H, .blk .fix [], .seg X1, .seg X2, .seg X3, .seg X4, .seg X5, .seg X6]))
 (.claim (opA (Plain.env tbl (gE 0)) (.call 27 [(.const (.slice a5 n5 c5)), (.const (.slice a9 n9 c9))]) [] (denH [.seg H, .blk .fix [], .seg X1, .seg X2, .seg X3, .seg X4, .seg X5, .seg X6]) = some ((.bool true), denH [.seg H, .blk .fix [], .seg X1, .seg X2, .seg X3, .seg X4, .seg X5, .seg X6]))
 (.claim (opA (Plain.env tbl (gE 0)) (.call 35 [(.const (.slice (some a3) n3 c3)), (.const (.slice (some a2) n2 c2)), (.const (.int .i64 7))]) [] (denH [.seg H, .blk .fix [], .seg X1, .seg X2, .seg X3, .seg X4, .seg X5, .seg X6]) = some ((.bool true), denH [.seg H, .blk .fix [], .seg X1, .seg X2, .seg X3, .seg X4, .seg X5, .seg X6]))
 (.claim (opA (Plain.env tbl (gE 0)) (.bin .and (.const (.int .i64 (n7 : Int))) (.const (.int .i64 7))) [] [] = some ((.int .i64 k3), []))
 (.claim (opA (Plain.env tbl (gE 0)) (.bin .eql (.const (.int .i64 k3)) (.const (.int .i64 0))) [] [] = some ((.bool true), []))
 (.claim (opA (Plain.env tbl (gE 0)) (.call 23 [(.const (.slice a8 n8 c8))]) [] (denH [.seg H, .blk .fix [], .seg X1, .seg X2, .seg X3, .seg X4, .seg X5, .seg X6]) = some ((.slice a10 n10 c10), denH [.seg H, .blk .fix [], .seg X1, .seg X2, .seg X3, .seg X4, .seg X5, .seg X6, .seg X7]))
 (.claim (opA (Plain.env tbl (gE 0)) (.call 27 [(.const (.slice a10 n10 c10)), (.const (.slice a7 n7 c7))]) [] (denH [.seg H, .blk .fix [], .seg X1, .seg X2, .seg X3, .seg X4, .seg X5, .seg X6, .seg X7]) = some ((.bool true), denH [.seg H, .blk .fix [], .seg X1, .seg X2, .seg X3, .seg X4, .seg X5, .seg X6, .seg X7]))
 (.req (preWithin 0 (n5 : Int)) (.claim (opA (Plain.env tbl (gE 0)) (.slice 1 (.const (.slice a5 n5 c5)) none (some (.const (.int .i64 (wn cut 0 (n5 : Int))))) none) [] (denH [.seg H, .blk .fix [], .seg X1, .seg X2, .seg X3, .seg X4, .seg X5, .seg X6, .seg X7]) = some ((.slice a11 n11 c11), denH [.seg H, .blk .fix [], .seg X1, .seg X2, .seg X3, .seg X4, .seg X5, .seg X6, .seg X7]))
 (.claim (opA (Plain.env tbl (gE 0)) (.call 32 [(.const (.slice a11 n11 c11))]) [] (denH [.seg H, .blk .fix [], .seg X1, .seg X2, .seg X3, .seg X4, .seg X5, .seg X6, .seg X7]) = some ((.tuple ⟨[(.slice a12 n12 c12), (.bool r)]⟩), denH [.seg H, .blk .fix [], .seg X1, .seg X2, .seg X3, .seg X4, .seg X5, .seg X6, .seg X7, .seg X8]))
 (.claim (opA (Plain.env tbl (gE 0)) (.bin .and (.const (.int .i64 (wn cut 0 (n5 : Int)))) (.const (.int .i64 7))) [] [] = some ((.int .i64 k4), []))
 (.claim (opA (Plain.env tbl (gE 0)) (.bin .eql (.const (.int .i64 k4)) (.const (.int .i64 0))) [] [] = some ((.bool r), []))
 (.claim (opA (Plain.env tbl (gE 0)) (.eqv false .bool (.const (.bool r)) (.const (.bool r))) [] [] = some ((.bool true), []))
 (.req true (.ret .ret [(sB true)] [.seg H, .blk .fix [], .seg X1, .seg X2, .seg X3, .seg X4, .seg X5, .seg X6, .seg X7, .seg X8])))))))))))))))))))))))))) := by kernel_rfl
def hn6n (al ab a1 a4 a5 a6 a7 a8 a9 a10 a11 a12 : Option Addr) (a2 a3 : Addr) (nl nb n1 n2 n3 n4 n5 n6 n7 n8 n9 n10 n11 n12 cl cb_ c1 c2 c3 c4 c5 c6 c7 c8 c9 c10 c11 c12 : Nat) (cut k1 k2 k3 k4 : Int) (r : Bool) (H X1 X2 X3 X4 X5 X6 X7 X8 : Heap) : Hs := (.pur 32000022 (.int .i64 k1) (.bas 17000023 (.slice a1 n1 c1) (.use 30000024 (.raw (.slice (some a2) n2 c2)) ⟨[], [.seg X1]⟩ (.use 26000026 (.raw (.slice (some a3) n3 c3)) ⟨[], [.seg X2]⟩ (.use 17000030 (.raw (.slice a4 n4 c4)) ⟨[], []⟩ (.use 26000031 (.raw (.slice a5 n5 c5)) ⟨[], [.seg X3]⟩ (.use 26000034 (.raw (.tuple ⟨[(.slice a6 n6 c6), (.bool true)]⟩)) ⟨[], [.seg X4]⟩ (.pur 32000040 (.int .i64 k2) (.bas 17000041 (.slice a7 n7 c7) (.use 26000044 (.raw (.tuple ⟨[(.slice a8 n8 c8), (.bool false)]⟩)) ⟨[], [.seg X5]⟩ (.con (.con (.con (.use 26000052 (sB true) ⟨[], []⟩ (.con (.con (.con (.con (.con (.use 26000058 (.raw (.slice a9 n9 c9)) ⟨[], [.seg X6]⟩ (.con (.use 26000059 (sB true) ⟨[], []⟩ (.con (.con (.con (.con (.con (.use 26000065 (sB true) ⟨[], []⟩ (.con (.con (.con (.con (.con (.con (.pur 10000072 (.int .i64 k3) (.con (.pur 10000073 (.bool false) (.con (.con (.con (.con (.con (.con (.con (.con (.con (.con (.con (.con (.con (.con (.con (.con (.con (.con (.pur 10000092 (.bool false) (.con (.con (.con (.con (.use 17000102 (.raw (.slice a11 n11 c11)) ⟨[], []⟩ (.use 26000103 (.raw (.tuple ⟨[(.slice a12 n12 c12), (.bool r)]⟩)) ⟨[], [.seg X8]⟩ (.pur 10000108 (.int .i64 k4) (.pur 10000109 (.bool r) (.pur 11000110 (.bool true) (.con (.con .nil)))))))))))))))))))))))))))))))))))))))))))))))))))))))))))))))))))
theorem tree6n (al ab a1 a4 a5 a6 a7 a8 a9 a10 a11 a12 : Option Addr) (a2 a3 : Addr) (nl nb n1 n2 n3 n4 n5 n6 n7 n8 n9 n10 n11 n12 cl cb_ c1 c2 c3 c4 c5 c6 c7 c8 c9 c10 c11 c12 : Nat) (cut k1 k2 k3 k4 : Int) (r : Bool) (H X1 X2 X3 X4 X5 X6 X7 X8 : Heap) : fnS tbl (gE 0) (cE 0) 300 il6 (hn6n al ab a1 a4 a5 a6 a7 a8 a9 a10 a11 a12 a2 a3 nl nb n1 n2 n3 n4 n5 n6 n7 n8 n9 n10 n11 n12 cl cb_ c1 c2 c3 c4 c5 c6 c7 c8 c9 c10 c11 c12 cut k1 k2 k3 k4 r H X1 X2 X3 X4 X5 X6 X7 X8) [(.raw (.slice al nl cl)), (.raw (.slice ab nb cb_)), (sI cut)] [.seg H] =
(.claim (opA (Plain.env tbl (gE 0)) (.mn (.const (.int .i64 (nl : Int))) (.const (.int .i64 20))) [] [] = some ((.int .i64 k1), []))
 (.claim (opA (Plain.env tbl (gE 0)) (.slice 1 (.const (.slice al nl cl)) none (some (.const (.int .i64 k1))) none) [] H = some ((.slice a1 n1 c1), H))
 (.claim (opA (Plain.env tbl (gE 0)) (.append 1 8 (.const (denV (ofs [.seg H, .blk .fix []]) (.sl 1 0 0 0))) (.const (.slice a1 n1 c1))) [] (denH [.seg H, .blk .fix []]) = some ((.slice (some a2) n2 c2), denH [.seg H, .blk .fix [], .seg X1]))
 (.claim (opA (Plain.env tbl (gE 0)) (.call 31 [(.const (.slice (some a2) n2 c2)), (.const (.int .i64 7))]) [] (denH [.seg H, .blk .fix [], .seg X1]) = some ((.slice (some a3) n3 c3), denH [.seg H, .blk .fix [], .seg X1, .seg X2]))
 (.claim (opA (Plain.env tbl (gE 0)) (.slice 1 (.const (.slice (some a3) n3 c3)) none (some (.const (.int .i64 (n2 : Int)))) none) [] (denH [.seg H, .blk .fix [], .seg X1, .seg X2]) = some ((.slice a4 n4 c4), denH [.seg H, .blk .fix [], .seg X1, .seg X2]))
 (.claim (opA (Plain.env tbl (gE 0)) (.call 23 [(.const (.slice a4 n4 c4))]) [] (denH [.seg H, .blk .fix [], .seg X1, .seg X2]) = some ((.slice a5 n5 c5), denH [.seg H, .blk .fix [], .seg X1, .seg X2, .seg X3]))
 (.claim (opA (Plain.env tbl (gE 0)) (.call 32 [(.const (.slice a5 n5 c5))]) [] (denH [.seg H, .blk .fix [], .seg X1, .seg X2, .seg X3]) = some ((.tuple ⟨[(.slice a6 n6 c6), (.bool true)]⟩), denH [.seg H, .blk .fix [], .seg X1, .seg X2, .seg X3, .seg X4]))
 (.claim (opA (Plain.env tbl (gE 0)) (.mn (.const (.int .i64 (nb : Int))) (.const (.int .i64 80))) [] [] = some ((.int .i64 k2), []))
 (.claim (opA (Plain.env tbl (gE 0)) (.slice 1 (.const (.slice ab nb cb_)) none (some (.const (.int .i64 k2))) none) [] H = some ((.slice a7 n7 c7), H))
 (.claim (opA (Plain.env tbl (gE 0)) (.call 32 [(.const (.slice a7 n7 c7))]) [] (denH [.seg H, .blk .fix [], .seg X1, .seg X2, .seg X3, .seg X4]) = some ((.tuple ⟨[(.slice a8 n8 c8), (.bool false)]⟩), denH [.seg H, .blk .fix [], .seg X1, .seg X2, .seg X3, .seg X4, .seg X5]))
 (.claim (opA (Plain.env tbl (gE 0)) (.call 33 [(.const (.slice a6 n6 c6)), (.const (.slice (some a2) n2 c2))]) [] (denH [.seg H, .blk .fix [], .seg X1, .seg X2, .seg X3, .seg X4, .seg X5]) = some ((.bool true), denH [.seg H, .blk .fix [], .seg X1, .seg X2, .seg X3, .seg X4, .seg X5]))
 (.claim (opA (Plain.env tbl (gE 0)) (.call 34 [(.const (.slice (some a2) n2 c2))]) [] (denH [.seg H, .blk .fix [], .seg X1, .seg X2, .seg X3, .seg X4, .seg X5]) = some ((.slice a9 n9 c9), denH [.seg H, .blk .fix [], .seg X1, .seg X2, .seg X3, .seg X4, .seg X5, .seg X6]))
 (.claim (opA (Plain.env tbl (gE 0)) (.call 27 [(.const (.slice a5 n5 c5)), (.const (.slice a9 n9 c9))]) [] (denH [.seg H, .blk .fix [], .seg X1, .seg X2, .seg X3, .seg X4, .seg X5, .seg X6]) = some ((.bool true), denH [.seg H, .blk .fix [], .seg X1, .seg X2, .seg X3, .seg X4, .seg X5, .seg X6]))
 (.claim (opA (Plain.env tbl (gE 0)) (.call 35 [(.const (.slice (some a3) n3 c3)), (.const (.slice (some a2) n2 c2)), (.const (.int .i64 7))]) [] (denH [.seg H, .blk .fix [], .seg X1, .seg X2, .seg X3, .seg X4, .seg X5, .seg X6]) = some ((.bool true), denH [.seg H, .blk .fix [], .seg X1, .seg X2, .seg X3, .seg X4, .seg X5, .seg X6]))
 (.claim (opA (Plain.env tbl (gE 0)) (.bin .and (.const (.int .i64 (n7 : Int))) (.const (.int .i64 7))) [] [] = some ((.int .i64 k3), []))
 (.claim (opA (Plain.env tbl (gE 0)) (.bin .eql (.const (.int .i64 k3)) (.const (.int .i64 0))) [] [] = some ((.bool false), []))
 (.claim (opA (Plain.env tbl (gE 0)) (.bin .neq (.const (.int .i64 (n8 : Int))) (.const (.int .i64 0))) [] [] = some ((.bool false), []))
 (.req (preWithin 0 (n5 : Int)) (.claim (opA (Plain.env tbl (gE 0)) (.slice 1 (.const (.slice a5 n5 c5)) none (some (.const (.int .i64 (wn cut 0 (n5 : Int))))) none) [] (denH [.seg H, .blk .fix [], .seg X1, .seg X2, .seg X3, .seg X4, .seg X5, .seg X6]) = some ((.slice a11 n11 c11), denH [.seg H, .blk .fix [], .seg X1, .seg X2, .seg X3, .seg X4, .seg X5, .seg X6]))
 (.claim (opA (Plain.env tbl (gE 0)) (.call 32 [(.const (.slice a11 n11 c11))]) [] (denH [.seg H, .blk .fix [], .seg X1, .seg X2, .seg X3, .seg X4, .seg X5, .seg X6]) = some ((.tuple ⟨[(.slice a12 n12 c12), (.bool r)]⟩), denH [.seg H, .blk .fix [], .seg X1, .seg X2, .seg X3, .seg X4, .seg X5, .seg X6, .seg X8]))
 (.claim (opA (Plain.env tbl (gE 0)) (.bin .and (.const (.int .i64 (wn cut 0 (n5 : Int)))) (.const (.int .i64 7))) [] [] = some ((.int .i64 k4), []))
 (.claim (opA (Plain.env tbl (gE 0)) (.bin .eql (.const (.int .i64 k4)) (.const (.int .i64 0))) [] [] = some ((.bool r), []))
 (.claim (opA (Plain.env tbl (gE 0)) (.eqv false .bool (.const (.bool r)) (.const (.bool r))) [] [] = some ((.bool true), []))
 (.req true (.ret .ret [(sB true)] [.seg H, .blk .fix [], .seg X1, .seg X2, .seg X3, .seg X4, .seg X5, .seg X6, .seg X8]))))))))))))))))))))))))) := by kernel_rfl
theorem call {f : Nat} {args : List Value} {h : Heap} {r : Value × Heap} (ht : tbl.find f args = none) (e : gK f args h = some r) : opA (Plain.env tbl (gE 0)) (.call f (args.map .const)) [] h = some r := opA_call ht e
theorem and7 (n : Nat) (hn : n < 4611686018427387904) (Γ : Env) : opA Γ (.bin .and (.const (.int .i64 n)) (.const (.int .i64 7))) [] [] = some (.int .i64 (n % 8 : Nat), []) := by
  simp only [opA, pureA, ev, binA, intBin, if_true]
  congr 3
  rw [BitVec.toNat_and, BitVec.toNat_ofInt]
  rw [show ((n : Int) % ((2 ^ IntKind.i64.bits : Nat) : Int)).toNat = n from by show ((n : Int) % 18446744073709551616).toNat = n; omega, show (BitVec.ofInt IntKind.i64.bits 7).toNat = 2 ^ 3 - 1 from rfl, Nat.and_two_pow_sub_one_eq_mod]
  exact wrapN (by omega)
theorem eql_ok (k : Nat) (q : Bool) (h : q = decide (k = 0)) (Γ : Env) : opA Γ (.bin .eql (.const (.int .i64 k)) (.const (.int .i64 0))) [] [] = some (.bool q, []) := by
  simp only [opA, pureA, ev, binA, intBin, if_true]
  congr 3
  subst h
  by_cases hk : k = 0
  · subst hk; rfl
  · rw [show decide (k = 0) = false from by simpa using hk]
    have : ¬ ((k : Int) = 0) := by omega
    simpa using this
theorem eqvb (Γ : Env) (r : Bool) (h : Heap) : opA Γ (.eqv false .bool (.const (.bool r)) (.const (.bool r))) [] h = some (.bool true, h) := by cases r <;> rfl
theorem neq0 (Γ : Env) : opA Γ (.bin .neq (.const (.int .i64 ((0 : Nat) : Int))) (.const (.int .i64 0))) [] [] = some (.bool false, []) := rfl
theorem law {H : Heap} {l b : Value} {zs bs : List Int} {cut : Int} (hL : RowsW 1 H l (zs.map ir)) (hz : ∀ z ∈ zs, In64 z) (hB : RowsW 1 H b (bs.map br)) (hbs : ∀ x ∈ bs, InB x) : Sim Try.prog 6 [l, b, .int .i64 cut] H fun v _ => v = .bool true := by
  obtain ⟨al, cl, rfl⟩ := hL.slcM
  obtain ⟨ab, cb, rfl⟩ := hB.slcM
  obtain ⟨v1, hc1, h1⟩ := hL.cutM (lo := 0) (hi := min zs.length 20) (by omega) (by omega) none (some (.const (.int .i64 (min zs.length 20 : Nat)))) (.inl ⟨rfl, rfl⟩) (.inr rfl)
  obtain ⟨v7, hc7, h7⟩ := hB.cutM (lo := 0) (hi := min bs.length 80) (by omega) (by omega) none (some (.const (.int .i64 (min bs.length 80 : Nat)))) (.inl ⟨rfl, rfl⟩) (.inr rfl)
  rw [List.drop_zero] at h1 h7
  obtain ⟨os, eo⟩ : ∃ x, x = zs.take (min zs.length 20) := ⟨_, rfl⟩
  obtain ⟨ys, ey⟩ : ∃ x, x = bs.take (min bs.length 80) := ⟨_, rfl⟩
  rw [← eo] at h1
  rw [← ey] at h7
  have no : os.length ≤ 20 := by rw [eo]; simp; omega
  have ny : ys.length ≤ 80 := by rw [ey]; simp; omega
  have io : ∀ z ∈ os, In64 z := fun z h => hz z (by rw [eo] at h; exact List.mem_of_mem_take h)
  have iy : ∀ z ∈ ys, InB z := fun z h => hbs z (by rw [ey] at h; exact List.mem_of_mem_take h)
  obtain ⟨a1, c1, rfl⟩ := h1.slcM
  obtain ⟨a7, c7, rfl⟩ := h7.slcM
  have bl := byt_len os
  have h10 : RowsW 1 (denH [.seg H]) (.slice a1 os.length c1) (os.map ir) := by simpa [denH, denL, It.den] using h1
  have h70 : RowsW 1 (denH [.seg H]) (.slice a7 ys.length c7) (ys.map br) := by simpa [denH, denL, It.den] using h7
  obtain ⟨a2, c2, X1, g2, l2⟩ := appNew (I := [.seg H]) rfl (eby := 8) h10 (ir_w _) (by decide) (by simp; omega) (by simp; omega)
  rw [List.length_map] at g2 l2
  have r2 := l2.rowsI (I := [.seg H]) (K := [.blk .fix [], .seg X1]) rfl (by decide) (by simp [denL, It.den])
  obtain ⟨a3, X2, g3, r3⟩ := R31.use (I := [.seg H, .blk .fix [], .seg X1]) rfl (x := 7) r2 (by omega)
  have r3' : RowsW 1 (denH [.seg H, .blk .fix [], .seg X1, .seg X2]) (.slice (some a3) (os ++ List.replicate 80 7).length (os.length + 80)) ((os ++ List.replicate 80 7).map ir) := by
    rw [List.length_append, List.length_replicate]; exact r3
  obtain ⟨v4, hc4, h4⟩ := r3'.cutM (lo := 0) (hi := os.length) (by omega) (by simp) none (some (.const (.int .i64 os.length))) (.inl ⟨rfl, rfl⟩) (.inr rfl)
  rw [List.drop_zero, List.take_left] at h4
  rw [List.length_append, List.length_replicate] at hc4
  obtain ⟨a4, c4, rfl⟩ := h4.slcM
  obtain ⟨a5, c5, X3, g5, r5⟩ := useB (I := [.seg H, .blk .fix [], .seg X1, .seg X2]) rfl h4 (by omega)
  obtain ⟨a6, c6, X4, g6, r6⟩ := useI (I := [.seg H, .blk .fix [], .seg X1, .seg X2, .seg X3]) rfl r5 (by omega)
  rw [WI.intsF_byt io, WI.okI_byt] at g6
  rw [WI.intsF_byt io] at r6
  obtain ⟨a8, c8, X5, g8, r8⟩ := useI (I := [.seg H, .blk .fix [], .seg X1, .seg X2, .seg X3, .seg X4]) rfl (h70.up rfl [.blk .fix [], .seg X1, .seg X2, .seg X3, .seg X4]) (by omega)
  have eS1 := callSame ir_1 (r6.up rfl [.seg X5]) (r2.up rfl [.seg X2, .seg X3, .seg X4, .seg X5]) (by omega)
  rw [same_t rfl] at eS1
  obtain ⟨a9, c9, X6, g9, r9⟩ := useB (I := [.seg H, .blk .fix [], .seg X1, .seg X2, .seg X3, .seg X4, .seg X5]) rfl (r2.up rfl [.seg X2, .seg X3, .seg X4, .seg X5]) (by omega)
  have eS2 := callSame br_1 (r5.up rfl [.seg X4, .seg X5, .seg X6]) r9 (by omega)
  rw [same_t rfl] at eS2
  have eI := T35.call (r3.up rfl [.seg X3, .seg X4, .seg X5, .seg X6]) (r2.up rfl [.seg X2, .seg X3, .seg X4, .seg X5, .seg X6]) (by omega)
  obtain ⟨k, ek⟩ : ∃ k : Nat, (k : Int) = wn cut 0 ((byt os).length : Int) ∧ k ≤ (byt os).length := by
    have h1 := wn_lo (x := cut) (lo := 0) (hi := ((byt os).length : Int)) (by omega)
    have h2 := wn_hi (x := cut) (lo := 0) (hi := ((byt os).length : Int)) (by omega)
    exact ⟨(wn cut 0 ((byt os).length : Int)).toNat, by omega, by omega⟩
  by_cases h8 : ys.length % 8 = 0
  · have ok8 : okI ys = true := by unfold okI; simpa using h8
    have bi := WI.byt_intsF h8 iy
    rw [ok8] at g8
    have nI : (intsF ys).length ≤ 10 := by rw [WI.intsF_len, if_pos h8]; omega
    obtain ⟨a10, c10, X7, g10, r10⟩ := useB (I := [.seg H, .blk .fix [], .seg X1, .seg X2, .seg X3, .seg X4, .seg X5, .seg X6]) rfl (r8.up rfl [.seg X6]) (by omega)
    rw [bi] at g10 r10
    have eS3 := callSame br_1 r10 (h70.up rfl [.blk .fix [], .seg X1, .seg X2, .seg X3, .seg X4, .seg X5, .seg X6, .seg X7]) (by omega)
    rw [same_t rfl] at eS3
    have r5b := r5.up rfl [.seg X4, .seg X5, .seg X6, .seg X7]
    obtain ⟨v11, hc11, h11⟩ := r5b.cutM (lo := 0) (hi := k) (by omega) ek.2 none (some (.const (.int .i64 k))) (.inl ⟨rfl, rfl⟩) (.inr rfl)
    rw [List.drop_zero] at h11
    obtain ⟨a11, c11, rfl⟩ := h11.slcM
    obtain ⟨a12, c12, X8, g12, r12⟩ := useI rfl h11 (by rw [List.length_take]; omega)
    have tk : (List.take k (byt os)).length = k := by rw [List.length_take]; omega
    have okr : okI (List.take k (byt os)) = decide (k % 8 = 0) := by unfold okI; rw [tk]
    rw [tk] at g12 hc11
    rw [okr] at g12
    have t := tree6y al ab a1 a4 a5 a6 a7 a8 a9 a10 a11 a12 a2 a3 zs.length bs.length os.length os.length (os.length + 80) os.length (byt os).length os.length ys.length (intsF ys).length (byt os).length ys.length k (intsF (List.take k (byt os))).length cl cb c1 c2 (os.length + 80) c4 c5 c6 c7 c8 c9 c10 c11 c12 cut (min zs.length 20 : Nat) (min bs.length 80 : Nat) (ys.length % 8 : Nat) (k % 8 : Nat) (decide (k % 8 = 0)) H X1 X2 X3 X4 X5 X6 X7 X8
    rw [← ek.1] at t
    have := fnS_tree (Q := fun v _ => v = .bool true) mixed (gE_ok 0) (gE_q 0) (cE_ok 0) st6 t ⟨rfl, rfl⟩ ⟨mn_ok _ _ 20, hc1 _, g2 _, call (args := [_, _]) rfl g3, hc4 _, call (args := [_]) rfl g5, call (args := [_]) rfl g6, mn_ok _ _ 80, hc7 _, call (args := [_]) rfl g8, call (args := [_, _]) rfl eS1, call (args := [_]) rfl g9, call (args := [_, _]) rfl eS2, call (args := [_, _, _]) rfl eI,
      and7 _ (by omega) _, eql_ok _ _ (by simpa using h8) _, call (args := [_]) rfl g10, call (args := [_, _]) rfl eS3, by simp [preWithin]; omega, hc11 _, call (args := [_]) rfl g12, and7 _ (by omega) _, eql_ok _ _ rfl _, eqvb _ _ _, rfl, rfl⟩
    simpa [denH, denL, It.den, denF, denV, denA, den0] using this
  · have ok8 : okI ys = false := by unfold okI; simpa using h8
    rw [ok8] at g8
    have nI : (intsF ys).length = 0 := by rw [WI.intsF_len, if_neg h8]
    have r5b := r5.up rfl [.seg X4, .seg X5, .seg X6]
    obtain ⟨v11, hc11, h11⟩ := r5b.cutM (lo := 0) (hi := k) (by omega) ek.2 none (some (.const (.int .i64 k))) (.inl ⟨rfl, rfl⟩) (.inr rfl)
    rw [List.drop_zero] at h11
    obtain ⟨a11, c11, rfl⟩ := h11.slcM
    obtain ⟨a12, c12, X8, g12, r12⟩ := useI rfl h11 (by rw [List.length_take]; omega)
    have tk : (List.take k (byt os)).length = k := by rw [List.length_take]; omega
    have okr : okI (List.take k (byt os)) = decide (k % 8 = 0) := by unfold okI; rw [tk]
    rw [tk] at g12 hc11
    rw [okr] at g12
    rw [nI] at g8
    have t := tree6n al ab a1 a4 a5 a6 a7 a8 a9 none a11 a12 a2 a3 zs.length bs.length os.length os.length (os.length + 80) os.length (byt os).length os.length ys.length 0 (byt os).length 0 k (intsF (List.take k (byt os))).length cl cb c1 c2 (os.length + 80) c4 c5 c6 c7 c8 c9 0 c11 c12 cut (min zs.length 20 : Nat) (min bs.length 80 : Nat) (ys.length % 8 : Nat) (k % 8 : Nat) (decide (k % 8 = 0)) H X1 X2 X3 X4 X5 X6 [] X8
    rw [← ek.1] at t
    have := fnS_tree (Q := fun v _ => v = .bool true) mixed (gE_ok 0) (gE_q 0) (cE_ok 0) st6 t ⟨rfl, rfl⟩ ⟨mn_ok _ _ 20, hc1 _, g2 _, call (args := [_, _]) rfl g3, hc4 _, call (args := [_]) rfl g5, call (args := [_]) rfl g6, mn_ok _ _ 80, hc7 _, call (args := [_]) rfl g8, call (args := [_, _]) rfl eS1, call (args := [_]) rfl g9, call (args := [_, _]) rfl eS2, call (args := [_, _, _]) rfl eI,
      and7 _ (by omega) _, eql_ok _ _ (by simpa using h8) _, neq0 _, by simp [preWithin]; omega, hc11 _, call (args := [_]) rfl g12, and7 _ (by omega) _, eql_ok _ _ rfl _, eqvb _ _ _, rfl, rfl⟩
    simpa [denH, denL, It.den, denF, denV, denA, den0] using this
theorem lawA (H : Heap) (xs : List Value) (h : F2 (fun p a => ArgOk H p.1 p.2 a) [(false, [LT.s 1 [.i .i64]]), (false, [LT.s 1 [.i .u8]]), (false, [LT.f (.i .i64)])] xs) : Sim Try.prog 6 xs H fun v _ => v = .bool true := by
  cases h with
  | cons h0 h => cases h with
    | cons h1 h => cases h with
      | cons h2 h => cases h with
        | nil =>
          obtain ⟨zs, hz, iz, _⟩ := lt_ints (arg_one h0)
          obtain ⟨bs, hb, ib, _⟩ := lt_bytes (arg_one h1)
          obtain ⟨c, rfl, _⟩ := lt_int (arg_one h2)
          exact law hz iz hb ib
end WK
end Go.Proofs.Ytgdojnamjkhknaa
