/-
  deal: the document's own answer to which deals may be is the same.
-/
import Derived.Test.YtgdojnamjkhknaaD5
namespace Go.Proofs.Ytgdojnamjkhknaa
open Go.Am
set_option linter.all false
set_option maxRecDepth 100000
namespace D
open A (tupIB pre1 pre1_u anyL lnF lnG)
namespace V
noncomputable def gK : Env := fun f => match f with
  | 77 => smry (pre1 2 e2 anyL) fun l h => (.bool (stpF l), h)
  | _ => fun _ _ => none
theorem gK_ok : EnvOk Try.prog gK := fun f => by
  unfold gK
  split
  · exact Q.sim77
  · exact fun args h v h' e => by cases e
theorem gK_q : QuietEnv qt gK := fun f args h v h' hf e => by cases hf
noncomputable abbrev gE (k : Nat) : Env := inE tblD [] k gK
noncomputable abbrev cE (k : Nat) : CallS := callS tblD [] gK 100 k
theorem gE_q (k : Nat) : QuietEnv qt (Plain.env tblD (gE k)) := Plain.quiet (inE_quiet gK_q (fun f F h => by cases h) k)
theorem gE_ok (k : Nat) : EnvOk Try.prog (Plain.env tblD (gE k)) := Plain.ok tblD_ok (inE_ok (qt := qt) mixed tblD_ok .nil (fun f F h => by cases h) gK_ok gK_q k)
theorem cE_ok (k : Nat) : CallOk (Plain.env tblD (gE k)) (cE k) := callS_ok k
/-- cascade/cascaderef11.Right -/
def il42 : FnIL := ⟨232, [.tmp 2],
 .seq (.reg [
    ⟨(some 1), none, .box (.tmp 0)⟩,
    ⟨(some 2), none, .mov (.const (.bool false))⟩])
 (.seq (.seq (.reg [
     ⟨(some 13), none, .fadr 0 (.tmp 1)⟩,
     ⟨(some 14), none, .load (.tmp 13) none⟩,
     ⟨(some 15), none, .bin .lss (.tmp 14) (.const (.int .i64 1))⟩,
     ⟨(some 16), none, .mov (.tmp 15)⟩,
     ⟨(some 17), (some (16, false)), .fadr 0 (.tmp 1)⟩,
     ⟨(some 18), (some (16, false)), .load (.tmp 17) none⟩,
     ⟨(some 19), (some (16, false)), .bin .gtr (.tmp 18) (.const (.int .i64 9000))⟩,
     ⟨(some 20), none, .pick (.tmp 16) (.const (.bool true)) (.tmp 19)⟩,
     ⟨(some 21), none, .mov (.tmp 20)⟩,
     ⟨(some 22), (some (21, false)), .fadr 1 (.tmp 1)⟩,
     ⟨(some 23), (some (21, false)), .load (.tmp 22) none⟩,
     ⟨(some 24), (some (21, false)), .bin .lss (.tmp 23) (.const (.int .i64 1))⟩,
     ⟨(some 25), none, .pick (.tmp 21) (.const (.bool true)) (.tmp 24)⟩,
     ⟨(some 26), none, .mov (.tmp 25)⟩,
     ⟨(some 27), (some (26, false)), .fadr 1 (.tmp 1)⟩,
     ⟨(some 28), (some (26, false)), .load (.tmp 27) none⟩,
     ⟨(some 29), (some (26, false)), .bin .gtr (.tmp 28) (.const (.int .i64 12))⟩,
     ⟨(some 30), none, .pick (.tmp 26) (.const (.bool true)) (.tmp 29)⟩,
     ⟨(some 31), none, .mov (.tmp 30)⟩,
     ⟨(some 32), (some (31, false)), .fadr 2 (.tmp 1)⟩,
     ⟨(some 33), (some (31, false)), .load (.tmp 32) none⟩,
     ⟨(some 34), (some (31, false)), .bin .lss (.tmp 33) (.const (.int .i64 0))⟩,
     ⟨(some 35), none, .pick (.tmp 31) (.const (.bool true)) (.tmp 34)⟩,
     ⟨(some 36), none, .mov (.tmp 35)⟩,
     ⟨(some 37), (some (36, false)), .fadr 2 (.tmp 1)⟩,
     ⟨(some 38), (some (36, false)), .load (.tmp 37) none⟩,
     ⟨(some 39), (some (36, false)), .bin .gtr (.tmp 38) (.const (.int .i64 2))⟩,
     ⟨(some 40), none, .pick (.tmp 36) (.const (.bool true)) (.tmp 39)⟩,
     ⟨(some 41), none, .mov (.tmp 40)⟩,
     ⟨(some 42), (some (41, false)), .fadr 5 (.tmp 1)⟩,
     ⟨(some 43), (some (41, false)), .load (.tmp 42) none⟩,
     ⟨(some 44), (some (41, false)), .bin .lss (.tmp 43) (.const (.int .i64 0))⟩,
     ⟨(some 45), none, .pick (.tmp 41) (.const (.bool true)) (.tmp 44)⟩,
     ⟨(some 46), none, .mov (.tmp 45)⟩,
     ⟨(some 47), (some (46, false)), .fadr 5 (.tmp 1)⟩,
     ⟨(some 48), (some (46, false)), .load (.tmp 47) none⟩,
     ⟨(some 49), (some (46, false)), .bin .gtr (.tmp 48) (.const (.int .i64 5000))⟩,
     ⟨(some 50), none, .pick (.tmp 46) (.const (.bool true)) (.tmp 49)⟩,
     ⟨(some 51), none, .mov (.tmp 50)⟩,
     ⟨(some 52), (some (51, false)), .fadr 6 (.tmp 1)⟩,
     ⟨(some 53), (some (51, false)), .load (.tmp 52) none⟩,
     ⟨(some 54), (some (51, false)), .bin .lss (.tmp 53) (.const (.int .i64 0))⟩,
     ⟨(some 55), none, .pick (.tmp 51) (.const (.bool true)) (.tmp 54)⟩,
     ⟨(some 56), none, .mov (.tmp 55)⟩,
     ⟨(some 57), (some (56, false)), .fadr 6 (.tmp 1)⟩,
     ⟨(some 58), (some (56, false)), .load (.tmp 57) none⟩,
     ⟨(some 59), (some (56, false)), .bin .gtr (.tmp 58) (.const (.int .i64 1099511627776))⟩,
     ⟨(some 60), none, .pick (.tmp 56) (.const (.bool true)) (.tmp 59)⟩,
     ⟨(some 61), none, .mov (.tmp 60)⟩,
     ⟨(some 62), (some (61, false)), .fadr 7 (.tmp 1)⟩,
     ⟨(some 63), (some (61, false)), .load (.tmp 62) none⟩,
     ⟨(some 64), (some (61, false)), .bin .lss (.tmp 63) (.const (.int .i64 0))⟩,
     ⟨(some 65), none, .pick (.tmp 61) (.const (.bool true)) (.tmp 64)⟩,
     ⟨(some 66), none, .mov (.tmp 65)⟩,
     ⟨(some 67), (some (66, false)), .fadr 7 (.tmp 1)⟩,
     ⟨(some 68), (some (66, false)), .load (.tmp 67) none⟩,
     ⟨(some 69), (some (66, false)), .bin .gtr (.tmp 68) (.const (.int .i64 10000))⟩,
     ⟨(some 70), none, .pick (.tmp 66) (.const (.bool true)) (.tmp 69)⟩,
     ⟨(some 71), none, .mov (.tmp 70)⟩,
     ⟨(some 72), (some (71, false)), .fadr 8 (.tmp 1)⟩,
     ⟨(some 73), (some (71, false)), .load (.tmp 72) none⟩,
     ⟨(some 74), (some (71, false)), .bin .lss (.tmp 73) (.const (.int .i64 0))⟩,
     ⟨(some 75), none, .pick (.tmp 71) (.const (.bool true)) (.tmp 74)⟩,
     ⟨(some 76), none, .mov (.tmp 75)⟩,
     ⟨(some 77), (some (76, false)), .fadr 8 (.tmp 1)⟩,
     ⟨(some 78), (some (76, false)), .load (.tmp 77) none⟩,
     ⟨(some 79), (some (76, false)), .bin .gtr (.tmp 78) (.const (.int .i64 1099511627776))⟩,
     ⟨(some 80), none, .pick (.tmp 76) (.const (.bool true)) (.tmp 79)⟩,
     ⟨(some 81), none, .mov (.tmp 80)⟩,
     ⟨(some 82), (some (81, false)), .fadr 9 (.tmp 1)⟩,
     ⟨(some 83), (some (81, false)), .load (.tmp 82) none⟩,
     ⟨(some 84), (some (81, false)), .bin .lss (.tmp 83) (.const (.int .i64 0))⟩,
     ⟨(some 85), none, .pick (.tmp 81) (.const (.bool true)) (.tmp 84)⟩,
     ⟨(some 86), none, .mov (.tmp 85)⟩,
     ⟨(some 87), (some (86, false)), .fadr 9 (.tmp 1)⟩,
     ⟨(some 88), (some (86, false)), .load (.tmp 87) none⟩,
     ⟨(some 89), (some (86, false)), .bin .gtr (.tmp 88) (.const (.int .i64 600))⟩,
     ⟨(some 90), none, .pick (.tmp 86) (.const (.bool true)) (.tmp 89)⟩])
  (.ite (.tmp 90)
    (.seq (.reg [
       ⟨(some 2), none, .mov (.const (.bool false))⟩])
    (.ret))
    (.skip)))
 (.seq (.reg [
    ⟨(some 91), none, .fadr 10 (.tmp 1)⟩,
    ⟨(some 92), none, .load (.tmp 91) (some 5)⟩,
    ⟨(some 3), none, .alloc [(.int .i64 0), (.int .i64 0), (.int .i64 0), (.int .i64 0), (.int .i64 0)]⟩,
    ⟨none, none, .store (.tmp 3) (.tmp 92) 5⟩])
 (.seq (.seq (.reg [
     ⟨(some 93), none, .fadr 0 (.tmp 3)⟩,
     ⟨(some 94), none, .load (.tmp 93) none⟩,
     ⟨(some 95), none, .fadr 1 (.tmp 3)⟩,
     ⟨(some 96), none, .load (.tmp 95) none⟩,
     ⟨(some 97), none, .fadr 2 (.tmp 3)⟩,
     ⟨(some 98), none, .load (.tmp 97) none⟩,
     ⟨(some 99), none, .fadr 3 (.tmp 3)⟩,
     ⟨(some 100), none, .load (.tmp 99) none⟩,
     ⟨(some 101), none, .fadr 4 (.tmp 3)⟩,
     ⟨(some 102), none, .load (.tmp 101) none⟩,
     ⟨(some 103), none, .mkrow [(.int .i64 0), (.int .i64 0), (.int .i64 0), (.int .i64 0), (.int .i64 0)] 5 [(0, 1, (.tmp 94)), (1, 1, (.tmp 96)), (2, 1, (.tmp 98)), (3, 1, (.tmp 100)), (4, 1, (.tmp 102))]⟩,
     ⟨(some 104), none, .len (.tmp 103)⟩,
     ⟨(some 105), none, .mov (.const (.int .i64 0))⟩])
  (.block 0
    (.loop
      (.seq (.reg [
         ⟨(some 106), none, .bin .lss (.tmp 105) (.tmp 104)⟩])
      (.seq (.ite (.tmp 106)
         (.skip)
         (.exit 0))
      (.seq (.block 1
         (.seq (.reg [
            ⟨(some 107), none, .iadr 1 none (.tmp 103) (.tmp 105)⟩,
            ⟨(some 108), none, .load (.tmp 107) none⟩,
            ⟨(some 5), none, .mov (.tmp 108)⟩])
         (.seq (.reg [
            ⟨(some 109), none, .mov (.tmp 5)⟩,
            ⟨(some 110), none, .bin .lss (.tmp 109) (.const (.int .i64 0))⟩,
            ⟨(some 111), none, .mov (.tmp 110)⟩,
            ⟨(some 112), (some (111, false)), .mov (.tmp 5)⟩,
            ⟨(some 113), (some (111, false)), .bin .gtr (.tmp 112) (.const (.int .i64 100000))⟩,
            ⟨(some 114), none, .pick (.tmp 111) (.const (.bool true)) (.tmp 113)⟩])
         (.ite (.tmp 114)
           (.seq (.reg [
              ⟨(some 2), none, .mov (.const (.bool false))⟩])
           (.ret))
           (.skip)))))
      (.reg [
        ⟨(some 115), none, .bin .add (.tmp 105) (.const (.int .i64 1))⟩,
        ⟨(some 105), none, .mov (.tmp 115)⟩])))))))
 (.seq (.seq (.reg [
     ⟨(some 116), none, .fadr 3 (.tmp 1)⟩,
     ⟨(some 117), none, .load (.tmp 116) none⟩,
     ⟨(some 118), none, .len (.tmp 117)⟩,
     ⟨(some 119), none, .bin .lss (.tmp 118) (.const (.int .i64 1))⟩,
     ⟨(some 120), none, .mov (.tmp 119)⟩,
     ⟨(some 121), (some (120, false)), .fadr 3 (.tmp 1)⟩,
     ⟨(some 122), (some (120, false)), .load (.tmp 121) none⟩,
     ⟨(some 123), (some (120, false)), .len (.tmp 122)⟩,
     ⟨(some 124), (some (120, false)), .bin .gtr (.tmp 123) (.const (.int .i64 64))⟩,
     ⟨(some 125), none, .pick (.tmp 120) (.const (.bool true)) (.tmp 124)⟩,
     ⟨(some 126), none, .mov (.tmp 125)⟩,
     ⟨(some 127), (some (126, false)), .fadr 4 (.tmp 1)⟩,
     ⟨(some 128), (some (126, false)), .load (.tmp 127) none⟩,
     ⟨(some 129), (some (126, false)), .len (.tmp 128)⟩,
     ⟨(some 130), (some (126, false)), .bin .lss (.tmp 129) (.const (.int .i64 1))⟩,
     ⟨(some 131), none, .pick (.tmp 126) (.const (.bool true)) (.tmp 130)⟩,
     ⟨(some 132), none, .mov (.tmp 131)⟩,
     ⟨(some 133), (some (132, false)), .fadr 4 (.tmp 1)⟩,
     ⟨(some 134), (some (132, false)), .load (.tmp 133) none⟩,
     ⟨(some 135), (some (132, false)), .len (.tmp 134)⟩,
     ⟨(some 136), (some (132, false)), .bin .gtr (.tmp 135) (.const (.int .i64 8))⟩,
     ⟨(some 137), none, .pick (.tmp 132) (.const (.bool true)) (.tmp 136)⟩])
  (.ite (.tmp 137)
    (.seq (.reg [
       ⟨(some 2), none, .mov (.const (.bool false))⟩])
    (.ret))
    (.skip)))
 (.seq (.reg [
    ⟨(some 6), none, .mov (.const (.int .i64 0))⟩])
 (.seq (.seq (.reg [
     ⟨(some 138), none, .fadr 3 (.tmp 1)⟩,
     ⟨(some 139), none, .load (.tmp 138) none⟩,
     ⟨(some 140), none, .len (.tmp 139)⟩,
     ⟨(some 141), none, .mov (.const (.int .i64 0))⟩])
  (.block 2
    (.loop
      (.seq (.reg [
         ⟨(some 142), none, .bin .lss (.tmp 141) (.tmp 140)⟩])
      (.seq (.ite (.tmp 142)
         (.skip)
         (.exit 2))
      (.seq (.block 3
         (.seq (.reg [
            ⟨(some 143), none, .mov (.tmp 141)⟩,
            ⟨(some 144), none, .iadr 2 none (.tmp 139) (.tmp 141)⟩,
            ⟨(some 145), none, .load (.tmp 144) (some 2)⟩,
            ⟨(some 8), none, .alloc [(.int .i64 0), (.int .i64 0)]⟩,
            ⟨(some 7), none, .mov (.tmp 143)⟩,
            ⟨none, none, .store (.tmp 8) (.tmp 145) 2⟩])
         (.seq (.seq (.dreg [
             ⟨(some 146), none, .fadr 0 (.tmp 8)⟩,
             ⟨(some 147), none, .load (.tmp 146) none⟩,
             ⟨(some 148), none, .bin .lss (.tmp 147) (.const (.int .i64 1))⟩,
             ⟨(some 149), none, .mov (.tmp 148)⟩,
             ⟨(some 150), (some (149, false)), .mov (.tmp 7)⟩,
             ⟨(some 151), (some (149, false)), .bin .gtr (.tmp 150) (.const (.int .i64 0))⟩,
             ⟨(some 152), (some (149, false)), .mov (.tmp 151)⟩,
             ⟨(some 153), (some (152, true)), .fadr 3 (.tmp 1)⟩,
             ⟨(some 154), (some (152, true)), .load (.tmp 153) none⟩,
             ⟨(some 155), (some (152, true)), .mov (.tmp 7)⟩,
             ⟨(some 156), (some (152, true)), .bin .sub (.tmp 155) (.const (.int .i64 1))⟩,
             ⟨(some 157), (some (152, true)), .iadr 2 none (.tmp 154) (.tmp 156)⟩,
             ⟨(some 158), (some (152, true)), .fadr 0 (.tmp 157)⟩,
             ⟨(some 159), (some (152, true)), .load (.tmp 158) none⟩,
             ⟨(some 160), (some (152, true)), .fadr 0 (.tmp 8)⟩,
             ⟨(some 161), (some (152, true)), .load (.tmp 160) none⟩,
             ⟨(some 162), (some (152, true)), .bin .geq (.tmp 159) (.tmp 161)⟩,
             ⟨(some 163), (some (149, false)), .pick (.tmp 152) (.tmp 162) (.const (.bool false))⟩,
             ⟨(some 164), none, .pick (.tmp 149) (.const (.bool true)) (.tmp 163)⟩,
             ⟨(some 165), none, .mov (.tmp 164)⟩,
             ⟨(some 166), (some (165, false)), .fadr 1 (.tmp 8)⟩,
             ⟨(some 167), (some (165, false)), .load (.tmp 166) none⟩,
             ⟨(some 168), (some (165, false)), .bin .lss (.tmp 167) (.const (.int .i64 0))⟩,
             ⟨(some 169), none, .pick (.tmp 165) (.const (.bool true)) (.tmp 168)⟩,
             ⟨(some 170), none, .mov (.tmp 169)⟩,
             ⟨(some 171), (some (170, false)), .fadr 1 (.tmp 8)⟩,
             ⟨(some 172), (some (170, false)), .load (.tmp 171) none⟩,
             ⟨(some 173), (some (170, false)), .mov (.tmp 6)⟩,
             ⟨(some 174), (some (170, false)), .bin .sub (.const (.int .i64 1099511627776)) (.tmp 173)⟩,
             ⟨(some 175), (some (170, false)), .bin .gtr (.tmp 172) (.tmp 174)⟩,
             ⟨(some 176), none, .pick (.tmp 170) (.const (.bool true)) (.tmp 175)⟩] [])
          (.ite (.tmp 176)
            (.seq (.reg [
               ⟨(some 2), none, .mov (.const (.bool false))⟩])
            (.ret))
            (.skip)))
         (.reg [
           ⟨(some 177), none, .mov (.tmp 6)⟩,
           ⟨(some 178), none, .fadr 1 (.tmp 8)⟩,
           ⟨(some 179), none, .load (.tmp 178) none⟩,
           ⟨(some 180), none, .bin .add (.tmp 177) (.tmp 179)⟩,
           ⟨(some 6), none, .mov (.tmp 180)⟩]))))
      (.reg [
        ⟨(some 181), none, .bin .add (.tmp 141) (.const (.int .i64 1))⟩,
        ⟨(some 141), none, .mov (.tmp 181)⟩])))))))
 (.seq (.seq (.reg [
     ⟨(some 182), none, .fadr 4 (.tmp 1)⟩,
     ⟨(some 183), none, .load (.tmp 182) none⟩,
     ⟨(some 184), none, .len (.tmp 183)⟩,
     ⟨(some 185), none, .mov (.const (.int .i64 0))⟩])
  (.block 4
    (.loop
      (.seq (.reg [
         ⟨(some 186), none, .bin .lss (.tmp 185) (.tmp 184)⟩])
      (.seq (.ite (.tmp 186)
         (.skip)
         (.exit 4))
      (.seq (.block 5
         (.seq (.reg [
            ⟨(some 187), none, .iadr 3 none (.tmp 183) (.tmp 185)⟩,
            ⟨(some 188), none, .load (.tmp 187) (some 3)⟩,
            ⟨(some 10), none, .alloc [(.int .i64 0), (.int .i64 0), (.int .i64 0)]⟩,
            ⟨none, none, .store (.tmp 10) (.tmp 188) 3⟩])
         (.seq (.seq (.reg [
             ⟨(some 189), none, .fadr 0 (.tmp 10)⟩,
             ⟨(some 190), none, .load (.tmp 189) none⟩,
             ⟨(some 191), none, .bin .lss (.tmp 190) (.const (.int .i64 0))⟩,
             ⟨(some 192), none, .mov (.tmp 191)⟩,
             ⟨(some 193), (some (192, false)), .fadr 0 (.tmp 10)⟩,
             ⟨(some 194), (some (192, false)), .load (.tmp 193) none⟩,
             ⟨(some 195), (some (192, false)), .bin .geq (.tmp 194) (.const (.int .i64 8))⟩,
             ⟨(some 196), none, .pick (.tmp 192) (.const (.bool true)) (.tmp 195)⟩,
             ⟨(some 197), none, .mov (.tmp 196)⟩,
             ⟨(some 198), (some (197, false)), .fadr 1 (.tmp 10)⟩,
             ⟨(some 199), (some (197, false)), .load (.tmp 198) none⟩,
             ⟨(some 200), (some (197, false)), .bin .lss (.tmp 199) (.const (.int .i64 1))⟩,
             ⟨(some 201), none, .pick (.tmp 197) (.const (.bool true)) (.tmp 200)⟩,
             ⟨(some 202), none, .mov (.tmp 201)⟩,
             ⟨(some 203), (some (202, false)), .fadr 1 (.tmp 10)⟩,
             ⟨(some 204), (some (202, false)), .load (.tmp 203) none⟩,
             ⟨(some 205), (some (202, false)), .mov (.tmp 6)⟩,
             ⟨(some 206), (some (202, false)), .bin .gtr (.tmp 204) (.tmp 205)⟩,
             ⟨(some 207), none, .pick (.tmp 202) (.const (.bool true)) (.tmp 206)⟩,
             ⟨(some 208), none, .mov (.tmp 207)⟩,
             ⟨(some 209), (some (208, false)), .fadr 2 (.tmp 10)⟩,
             ⟨(some 210), (some (208, false)), .load (.tmp 209) none⟩,
             ⟨(some 211), (some (208, false)), .bin .lss (.tmp 210) (.const (.int .i64 0))⟩,
             ⟨(some 212), none, .pick (.tmp 208) (.const (.bool true)) (.tmp 211)⟩,
             ⟨(some 213), none, .mov (.tmp 212)⟩,
             ⟨(some 214), (some (213, false)), .fadr 2 (.tmp 10)⟩,
             ⟨(some 215), (some (213, false)), .load (.tmp 214) none⟩,
             ⟨(some 216), (some (213, false)), .bin .gtr (.tmp 215) (.const (.int .i64 5000))⟩,
             ⟨(some 217), none, .pick (.tmp 213) (.const (.bool true)) (.tmp 216)⟩])
          (.ite (.tmp 217)
            (.seq (.reg [
               ⟨(some 2), none, .mov (.const (.bool false))⟩])
            (.ret))
            (.skip)))
         (.reg [
           ⟨(some 218), none, .mov (.tmp 6)⟩,
           ⟨(some 219), none, .fadr 1 (.tmp 10)⟩,
           ⟨(some 220), none, .load (.tmp 219) none⟩,
           ⟨(some 221), none, .bin .sub (.tmp 218) (.tmp 220)⟩,
           ⟨(some 6), none, .mov (.tmp 221)⟩]))))
      (.reg [
        ⟨(some 222), none, .bin .add (.tmp 185) (.const (.int .i64 1))⟩,
        ⟨(some 185), none, .mov (.tmp 222)⟩])))))))
 (.seq (.seq (.reg [
     ⟨(some 223), none, .fadr 15 (.tmp 1)⟩,
     ⟨(some 224), none, .load (.tmp 223) (some 3)⟩,
     ⟨(some 225), none, .mov (.const (.int .i64 0))⟩])
  (.block 6
    (.loop
      (.seq (.reg [
         ⟨(some 226), none, .bin .lss (.tmp 225) (.const (.int .i64 3))⟩])
      (.seq (.ite (.tmp 226)
         (.skip)
         (.exit 6))
      (.seq (.block 7
         (.seq (.reg [
            ⟨(some 227), none, .idx 1 3 none (.tmp 224) (.tmp 225)⟩,
            ⟨(some 12), none, .mov (.tmp 227)⟩])
         (.seq (.reg [
            ⟨(some 228), none, .mov (.tmp 12)⟩,
            ⟨(some 229), none, .call 77 [(.tmp 228)]⟩,
            ⟨(some 230), none, .un .not (.tmp 229)⟩])
         (.ite (.tmp 230)
           (.seq (.reg [
              ⟨(some 2), none, .mov (.const (.bool false))⟩])
           (.ret))
           (.skip)))))
      (.reg [
        ⟨(some 231), none, .bin .add (.tmp 225) (.const (.int .i64 1))⟩,
        ⟨(some 225), none, .mov (.tmp 231)⟩])))))))
 (.seq (.reg [
    ⟨(some 2), none, .mov (.const (.bool true))⟩])
 (.ret))))))))))⟩
theorem st42 : stF Try.prog qt 42 = some il42 := by kernel_rfl
def body42_2 : IL := .seq (.reg [
    ⟨(some 142), none, .bin .lss (.tmp 141) (.tmp 140)⟩])
 (.seq (.ite (.tmp 142)
    (.skip)
    (.exit 2))
 (.seq (.block 3
    (.seq (.reg [
       ⟨(some 143), none, .mov (.tmp 141)⟩,
       ⟨(some 144), none, .iadr 2 none (.tmp 139) (.tmp 141)⟩,
       ⟨(some 145), none, .load (.tmp 144) (some 2)⟩,
       ⟨(some 8), none, .alloc [(.int .i64 0), (.int .i64 0)]⟩,
       ⟨(some 7), none, .mov (.tmp 143)⟩,
       ⟨none, none, .store (.tmp 8) (.tmp 145) 2⟩])
    (.seq (.seq (.dreg [
        ⟨(some 146), none, .fadr 0 (.tmp 8)⟩,
        ⟨(some 147), none, .load (.tmp 146) none⟩,
        ⟨(some 148), none, .bin .lss (.tmp 147) (.const (.int .i64 1))⟩,
        ⟨(some 149), none, .mov (.tmp 148)⟩,
        ⟨(some 150), (some (149, false)), .mov (.tmp 7)⟩,
        ⟨(some 151), (some (149, false)), .bin .gtr (.tmp 150) (.const (.int .i64 0))⟩,
        ⟨(some 152), (some (149, false)), .mov (.tmp 151)⟩,
        ⟨(some 153), (some (152, true)), .fadr 3 (.tmp 1)⟩,
        ⟨(some 154), (some (152, true)), .load (.tmp 153) none⟩,
        ⟨(some 155), (some (152, true)), .mov (.tmp 7)⟩,
        ⟨(some 156), (some (152, true)), .bin .sub (.tmp 155) (.const (.int .i64 1))⟩,
        ⟨(some 157), (some (152, true)), .iadr 2 none (.tmp 154) (.tmp 156)⟩,
        ⟨(some 158), (some (152, true)), .fadr 0 (.tmp 157)⟩,
        ⟨(some 159), (some (152, true)), .load (.tmp 158) none⟩,
        ⟨(some 160), (some (152, true)), .fadr 0 (.tmp 8)⟩,
        ⟨(some 161), (some (152, true)), .load (.tmp 160) none⟩,
        ⟨(some 162), (some (152, true)), .bin .geq (.tmp 159) (.tmp 161)⟩,
        ⟨(some 163), (some (149, false)), .pick (.tmp 152) (.tmp 162) (.const (.bool false))⟩,
        ⟨(some 164), none, .pick (.tmp 149) (.const (.bool true)) (.tmp 163)⟩,
        ⟨(some 165), none, .mov (.tmp 164)⟩,
        ⟨(some 166), (some (165, false)), .fadr 1 (.tmp 8)⟩,
        ⟨(some 167), (some (165, false)), .load (.tmp 166) none⟩,
        ⟨(some 168), (some (165, false)), .bin .lss (.tmp 167) (.const (.int .i64 0))⟩,
        ⟨(some 169), none, .pick (.tmp 165) (.const (.bool true)) (.tmp 168)⟩,
        ⟨(some 170), none, .mov (.tmp 169)⟩,
        ⟨(some 171), (some (170, false)), .fadr 1 (.tmp 8)⟩,
        ⟨(some 172), (some (170, false)), .load (.tmp 171) none⟩,
        ⟨(some 173), (some (170, false)), .mov (.tmp 6)⟩,
        ⟨(some 174), (some (170, false)), .bin .sub (.const (.int .i64 1099511627776)) (.tmp 173)⟩,
        ⟨(some 175), (some (170, false)), .bin .gtr (.tmp 172) (.tmp 174)⟩,
        ⟨(some 176), none, .pick (.tmp 170) (.const (.bool true)) (.tmp 175)⟩] [])
     (.ite (.tmp 176)
       (.seq (.reg [
          ⟨(some 2), none, .mov (.const (.bool false))⟩])
       (.ret))
       (.skip)))
    (.reg [
      ⟨(some 177), none, .mov (.tmp 6)⟩,
      ⟨(some 178), none, .fadr 1 (.tmp 8)⟩,
      ⟨(some 179), none, .load (.tmp 178) none⟩,
      ⟨(some 180), none, .bin .add (.tmp 177) (.tmp 179)⟩,
      ⟨(some 6), none, .mov (.tmp 180)⟩]))))
 (.reg [
   ⟨(some 181), none, .bin .add (.tmp 141) (.const (.int .i64 1))⟩,
   ⟨(some 141), none, .mov (.tmp 181)⟩])))
def hn42a (al an a0 a1 a2 : Option Addr) (nl cl nn cn n0 c0 n1 c1 n2 c2 : Nat) (y mo ba fe re ta ad cu oc ic la lo ce : Int) (x0 x1 : Int) (b1 o1 : Nat) (H : Heap) : Hs := (.yes (.pur 22000144 (.pointer (some ⟨b1, o1, none⟩)) (.bas 7000145 (.agg ⟨[(.int .i64 x0), (.int .i64 x1)]⟩) (.join 15 (.con (.con (.con (.con (.con (.con (.con (.con (.con (.con (.con (.con (.con (.con (.con .nil))))))))))))))) (.con (.con (.con (.con (.con (.con (.con (.con (.con (.con (.con (.con (.con (.con (.con (.con .nil)))))))))))))))) (.join 4 (.con (.con (.con (.con .nil)))) (.con (.con (.con (.con .nil)))) (.join 6 (.con (.con (.con (.con (.con (.con .nil)))))) (.con (.con (.con (.con (.con (.con .nil)))))) (.sym .nil .nil)))))))
theorem tree42a (al an a0 a1 a2 : Option Addr) (nl cl nn cn n0 c0 n1 c1 n2 c2 : Nat) (y mo ba fe re ta ad cu oc ic la lo ce : Int) (x0 x1 : Int) (b1 o1 : Nat) (H : Heap) : pieceS tblD (gE 0) (cE 0) 100 (fun i => exL i body42_2 || inL [1, 2, 6] i) body42_2 (hn42a al an a0 a1 a2 nl cl nn cn n0 c0 n1 c1 n2 c2 y mo ba fe re ta ad cu oc ic la lo ce x0 x1 b1 o1 H) (frS 232 [(1, (.ptr 1 0)), (2, (sB false)), (6, (sI 0)), (139, (.raw (.slice al nl cl))), (140, (sI (nl : Int))), (141, (sI 0))]) [.seg H, .blk .fix [(sI y), (sI mo), (sI ba), (.raw (.slice al nl cl)), (.raw (.slice an nn cn)), (sI fe), (sI re), (sI ta), (sI ad), (sI cu), (sI oc), (sI ic), (sI la), (sI lo), (sI ce), (.raw (.slice a0 n0 c0)), (.raw (.slice a1 n1 c1)), (.raw (.slice a2 n2 c2))], .blk .fix [(sI oc), (sI ic), (sI la), (sI lo), (sI ce)], .blk .fix [(sI oc), (sI ic), (sI la), (sI lo), (sI ce)]] =
(.req (decide (0 < (nl : Int))) (.claim (opA (Plain.env tblD (gE 0)) (.iadr 2 none (.const (.slice al nl cl)) (.const (.int .i64 0))) [] [] = some ((.pointer (some ⟨b1, o1, none⟩)), []))
 (.claim (opA (Plain.env tblD (gE 0)) (.load (.const (.pointer (some ⟨b1, o1, none⟩))) (some 2)) [] H = some ((.agg ⟨[(.int .i64 x0), (.int .i64 x1)]⟩), H))
 (.req true (.req (bif (decide (x0 < 1)) then true else true) (.req (bif (bif (decide (x0 < 1)) then true else false) then true else true) (.req (bif (bif (bif (decide (x0 < 1)) then true else false) then true else (decide (x1 < 0))) then true else true) (.br (bif (bif (bif (decide (x0 < 1)) then true else false) then true else (decide (x1 < 0))) then true else (decide (x1 > 1099511627776)))
 (.ret .ret (frS 232 [(1, (.ptr 1 0)), (2, (sB false)), (6, (sI 0)), (139, (.raw (.slice al nl cl))), (140, (sI (nl : Int))), (141, (sI 0))]) [.seg H, .blk .fix [(sI y), (sI mo), (sI ba), (.raw (.slice al nl cl)), (.raw (.slice an nn cn)), (sI fe), (sI re), (sI ta), (sI ad), (sI cu), (sI oc), (sI ic), (sI la), (sI lo), (sI ce), (.raw (.slice a0 n0 c0)), (.raw (.slice a1 n1 c1)), (.raw (.slice a2 n2 c2))], .blk .fix [(sI oc), (sI ic), (sI la), (sI lo), (sI ce)], .blk .fix [(sI oc), (sI ic), (sI la), (sI lo), (sI ce)], .blk .fix [(sI x0), (sI x1)]])
 (.ret .normal (frS 232 [(1, (.ptr 1 0)), (2, (sB false)), (6, (sI (IntKind.wrap .i64 (0 + x1)))), (139, (.raw (.slice al nl cl))), (140, (sI (nl : Int))), (141, (sI 1))]) [.seg H, .blk .fix [(sI y), (sI mo), (sI ba), (.raw (.slice al nl cl)), (.raw (.slice an nn cn)), (sI fe), (sI re), (sI ta), (sI ad), (sI cu), (sI oc), (sI ic), (sI la), (sI lo), (sI ce), (.raw (.slice a0 n0 c0)), (.raw (.slice a1 n1 c1)), (.raw (.slice a2 n2 c2))], .blk .fix [(sI oc), (sI ic), (sI la), (sI lo), (sI ce)], .blk .fix [(sI oc), (sI ic), (sI la), (sI lo), (sI ce)], .blk .fix [(sI x0), (sI x1)]]))))))))) := by kernel_rfl
def hn42b (al an a0 a1 a2 : Option Addr) (nl cl nn cn n0 c0 n1 c1 n2 c2 : Nat) (y mo ba fe re ta ad cu oc ic la lo ce : Int) (x0 x1 z0 z1 i s_ : Int) (b0 o0 b1 o1 : Nat) (H J : Heap) : Hs := (.yes (.pur 22000144 (.pointer (some ⟨b1, o1, none⟩)) (.bas 7000145 (.agg ⟨[(.int .i64 x0), (.int .i64 x1)]⟩) (.sym (.con (.con (.con (.con (.con (.con (.con (.con (.con (.con (.con (.con (.con (.con (.con .nil))))))))))))))) (.con (.con (.yes (.con (.con (.con (.con (.pur 22000157 (.pointer (some ⟨b0, o0, none⟩)) (.con (.con (.bas 7000159 (.int .i64 z0) (.con (.con (.con (.con (.con (.con (.join 4 (.con (.con (.con (.con .nil)))) (.con (.con (.con (.con .nil)))) (.join 6 (.con (.con (.con (.con (.con (.con .nil)))))) (.con (.con (.con (.con (.con (.con .nil)))))) (.sym .nil .nil))))))))))))))))))))))))
theorem tree42b (al an a0 a1 a2 : Option Addr) (nl cl nn cn n0 c0 n1 c1 n2 c2 : Nat) (y mo ba fe re ta ad cu oc ic la lo ce : Int) (x0 x1 z0 z1 i s_ : Int) (b0 o0 b1 o1 : Nat) (H J : Heap) : pieceS tblD (gE 0) (cE 0) 100 (fun i => exL i body42_2 || inL [1, 2, 6] i) body42_2 (hn42b al an a0 a1 a2 nl cl nn cn n0 c0 n1 c1 n2 c2 y mo ba fe re ta ad cu oc ic la lo ce x0 x1 z0 z1 i s_ b0 o0 b1 o1 H J) (frS 232 [(1, (.ptr 1 0)), (2, (sB false)), (6, (sI s_)), (139, (.raw (.slice al nl cl))), (140, (sI (nl : Int))), (141, (sI i))]) [.seg H, .blk .fix [(sI y), (sI mo), (sI ba), (.raw (.slice al nl cl)), (.raw (.slice an nn cn)), (sI fe), (sI re), (sI ta), (sI ad), (sI cu), (sI oc), (sI ic), (sI la), (sI lo), (sI ce), (.raw (.slice a0 n0 c0)), (.raw (.slice a1 n1 c1)), (.raw (.slice a2 n2 c2))], .blk .fix [(sI oc), (sI ic), (sI la), (sI lo), (sI ce)], .blk .fix [(sI oc), (sI ic), (sI la), (sI lo), (sI ce)], .seg J] =
(.req (decide (i < (nl : Int))) (.claim (opA (Plain.env tblD (gE 0)) (.iadr 2 none (.const (.slice al nl cl)) (.const (.int .i64 i))) [] [] = some ((.pointer (some ⟨b1, o1, none⟩)), []))
 (.claim (opA (Plain.env tblD (gE 0)) (.load (.const (.pointer (some ⟨b1, o1, none⟩))) (some 2)) [] H = some ((.agg ⟨[(.int .i64 x0), (.int .i64 x1)]⟩), H))
 (.req true (.br (decide (x0 < 1))
 (.ret .ret (frS 232 [(1, (.ptr 1 0)), (2, (sB false)), (6, (sI s_)), (139, (.raw (.slice al nl cl))), (140, (sI (nl : Int))), (141, (sI i))]) [.seg H, .blk .fix [(sI y), (sI mo), (sI ba), (.raw (.slice al nl cl)), (.raw (.slice an nn cn)), (sI fe), (sI re), (sI ta), (sI ad), (sI cu), (sI oc), (sI ic), (sI la), (sI lo), (sI ce), (.raw (.slice a0 n0 c0)), (.raw (.slice a1 n1 c1)), (.raw (.slice a2 n2 c2))], .blk .fix [(sI oc), (sI ic), (sI la), (sI lo), (sI ce)], .blk .fix [(sI oc), (sI ic), (sI la), (sI lo), (sI ce)], .seg J, .blk .fix [(sI x0), (sI x1)]])
 (.req (decide (i > 0)) (.claim (opA (Plain.env tblD (gE 0)) (.iadr 2 none (.const (.slice al nl cl)) (.const (.int .i64 (IntKind.wrap .i64 (i - 1))))) [] [] = some ((.pointer (some ⟨b0, o0, none⟩)), []))
 (.claim (opA (Plain.env tblD (gE 0)) (.load (.const (.pointer (some ⟨b0, o0, none⟩))) none) [] H = some ((.int .i64 z0), H))
 (.req (bif (decide (z0 ≥ x0)) then true else true) (.req (bif (bif (decide (z0 ≥ x0)) then true else (decide (x1 < 0))) then true else true) (.br (bif (bif (decide (z0 ≥ x0)) then true else (decide (x1 < 0))) then true else (decide (x1 > (IntKind.wrap .i64 (1099511627776 - s_)))))
 (.ret .ret (frS 232 [(1, (.ptr 1 0)), (2, (sB false)), (6, (sI s_)), (139, (.raw (.slice al nl cl))), (140, (sI (nl : Int))), (141, (sI i))]) [.seg H, .blk .fix [(sI y), (sI mo), (sI ba), (.raw (.slice al nl cl)), (.raw (.slice an nn cn)), (sI fe), (sI re), (sI ta), (sI ad), (sI cu), (sI oc), (sI ic), (sI la), (sI lo), (sI ce), (.raw (.slice a0 n0 c0)), (.raw (.slice a1 n1 c1)), (.raw (.slice a2 n2 c2))], .blk .fix [(sI oc), (sI ic), (sI la), (sI lo), (sI ce)], .blk .fix [(sI oc), (sI ic), (sI la), (sI lo), (sI ce)], .seg J, .blk .fix [(sI x0), (sI x1)]])
 (.ret .normal (frS 232 [(1, (.ptr 1 0)), (2, (sB false)), (6, (sI (IntKind.wrap .i64 (s_ + x1)))), (139, (.raw (.slice al nl cl))), (140, (sI (nl : Int))), (141, (sI (IntKind.wrap .i64 (i + 1))))]) [.seg H, .blk .fix [(sI y), (sI mo), (sI ba), (.raw (.slice al nl cl)), (.raw (.slice an nn cn)), (sI fe), (sI re), (sI ta), (sI ad), (sI cu), (sI oc), (sI ic), (sI la), (sI lo), (sI ce), (.raw (.slice a0 n0 c0)), (.raw (.slice a1 n1 c1)), (.raw (.slice a2 n2 c2))], .blk .fix [(sI oc), (sI ic), (sI la), (sI lo), (sI ce)], .blk .fix [(sI oc), (sI ic), (sI la), (sI lo), (sI ce)], .seg J, .blk .fix [(sI x0), (sI x1)]])))))))))))) := by kernel_rfl
def hn42e (al an a0 a1 a2 : Option Addr) (nl cl nn cn n0 c0 n1 c1 n2 c2 : Nat) (y mo ba fe re ta ad cu oc ic la lo ce : Int) (i s_ : Int) (H J : Heap) : Hs := (.no .nil)
theorem tree42e (al an a0 a1 a2 : Option Addr) (nl cl nn cn n0 c0 n1 c1 n2 c2 : Nat) (y mo ba fe re ta ad cu oc ic la lo ce : Int) (i s_ : Int) (H J : Heap) : pieceS tblD (gE 0) (cE 0) 100 (fun i => exL i body42_2 || inL [1, 2, 6] i) body42_2 (hn42e al an a0 a1 a2 nl cl nn cn n0 c0 n1 c1 n2 c2 y mo ba fe re ta ad cu oc ic la lo ce i s_ H J) (frS 232 [(1, (.ptr 1 0)), (2, (sB false)), (6, (sI s_)), (139, (.raw (.slice al nl cl))), (140, (sI (nl : Int))), (141, (sI i))]) [.seg H, .blk .fix [(sI y), (sI mo), (sI ba), (.raw (.slice al nl cl)), (.raw (.slice an nn cn)), (sI fe), (sI re), (sI ta), (sI ad), (sI cu), (sI oc), (sI ic), (sI la), (sI lo), (sI ce), (.raw (.slice a0 n0 c0)), (.raw (.slice a1 n1 c1)), (.raw (.slice a2 n2 c2))], .blk .fix [(sI oc), (sI ic), (sI la), (sI lo), (sI ce)], .blk .fix [(sI oc), (sI ic), (sI la), (sI lo), (sI ce)], .seg J] =
(.req (!(decide (i < (nl : Int)))) (.ret (.exit 2) (frS 232 [(1, (.ptr 1 0)), (2, (sB false)), (6, (sI s_)), (139, (.raw (.slice al nl cl))), (140, (sI (nl : Int))), (141, (sI i))]) [.seg H, .blk .fix [(sI y), (sI mo), (sI ba), (.raw (.slice al nl cl)), (.raw (.slice an nn cn)), (sI fe), (sI re), (sI ta), (sI ad), (sI cu), (sI oc), (sI ic), (sI la), (sI lo), (sI ce), (.raw (.slice a0 n0 c0)), (.raw (.slice a1 n1 c1)), (.raw (.slice a2 n2 c2))], .blk .fix [(sI oc), (sI ic), (sI la), (sI lo), (sI ce)], .blk .fix [(sI oc), (sI ic), (sI la), (sI lo), (sI ce)], .seg J])) := by kernel_rfl
def body42_4 : IL := .seq (.reg [
    ⟨(some 186), none, .bin .lss (.tmp 185) (.tmp 184)⟩])
 (.seq (.ite (.tmp 186)
    (.skip)
    (.exit 4))
 (.seq (.block 5
    (.seq (.reg [
       ⟨(some 187), none, .iadr 3 none (.tmp 183) (.tmp 185)⟩,
       ⟨(some 188), none, .load (.tmp 187) (some 3)⟩,
       ⟨(some 10), none, .alloc [(.int .i64 0), (.int .i64 0), (.int .i64 0)]⟩,
       ⟨none, none, .store (.tmp 10) (.tmp 188) 3⟩])
    (.seq (.seq (.reg [
        ⟨(some 189), none, .fadr 0 (.tmp 10)⟩,
        ⟨(some 190), none, .load (.tmp 189) none⟩,
        ⟨(some 191), none, .bin .lss (.tmp 190) (.const (.int .i64 0))⟩,
        ⟨(some 192), none, .mov (.tmp 191)⟩,
        ⟨(some 193), (some (192, false)), .fadr 0 (.tmp 10)⟩,
        ⟨(some 194), (some (192, false)), .load (.tmp 193) none⟩,
        ⟨(some 195), (some (192, false)), .bin .geq (.tmp 194) (.const (.int .i64 8))⟩,
        ⟨(some 196), none, .pick (.tmp 192) (.const (.bool true)) (.tmp 195)⟩,
        ⟨(some 197), none, .mov (.tmp 196)⟩,
        ⟨(some 198), (some (197, false)), .fadr 1 (.tmp 10)⟩,
        ⟨(some 199), (some (197, false)), .load (.tmp 198) none⟩,
        ⟨(some 200), (some (197, false)), .bin .lss (.tmp 199) (.const (.int .i64 1))⟩,
        ⟨(some 201), none, .pick (.tmp 197) (.const (.bool true)) (.tmp 200)⟩,
        ⟨(some 202), none, .mov (.tmp 201)⟩,
        ⟨(some 203), (some (202, false)), .fadr 1 (.tmp 10)⟩,
        ⟨(some 204), (some (202, false)), .load (.tmp 203) none⟩,
        ⟨(some 205), (some (202, false)), .mov (.tmp 6)⟩,
        ⟨(some 206), (some (202, false)), .bin .gtr (.tmp 204) (.tmp 205)⟩,
        ⟨(some 207), none, .pick (.tmp 202) (.const (.bool true)) (.tmp 206)⟩,
        ⟨(some 208), none, .mov (.tmp 207)⟩,
        ⟨(some 209), (some (208, false)), .fadr 2 (.tmp 10)⟩,
        ⟨(some 210), (some (208, false)), .load (.tmp 209) none⟩,
        ⟨(some 211), (some (208, false)), .bin .lss (.tmp 210) (.const (.int .i64 0))⟩,
        ⟨(some 212), none, .pick (.tmp 208) (.const (.bool true)) (.tmp 211)⟩,
        ⟨(some 213), none, .mov (.tmp 212)⟩,
        ⟨(some 214), (some (213, false)), .fadr 2 (.tmp 10)⟩,
        ⟨(some 215), (some (213, false)), .load (.tmp 214) none⟩,
        ⟨(some 216), (some (213, false)), .bin .gtr (.tmp 215) (.const (.int .i64 5000))⟩,
        ⟨(some 217), none, .pick (.tmp 213) (.const (.bool true)) (.tmp 216)⟩])
     (.ite (.tmp 217)
       (.seq (.reg [
          ⟨(some 2), none, .mov (.const (.bool false))⟩])
       (.ret))
       (.skip)))
    (.reg [
      ⟨(some 218), none, .mov (.tmp 6)⟩,
      ⟨(some 219), none, .fadr 1 (.tmp 10)⟩,
      ⟨(some 220), none, .load (.tmp 219) none⟩,
      ⟨(some 221), none, .bin .sub (.tmp 218) (.tmp 220)⟩,
      ⟨(some 6), none, .mov (.tmp 221)⟩]))))
 (.reg [
   ⟨(some 222), none, .bin .add (.tmp 185) (.const (.int .i64 1))⟩,
   ⟨(some 185), none, .mov (.tmp 222)⟩])))
def hn42c (al an a0 a1 a2 : Option Addr) (nl cl nn cn n0 c0 n1 c1 n2 c2 : Nat) (y mo ba fe re ta ad cu oc ic la lo ce : Int) (x0 x1 x2 i s_ : Int) (b1 o1 : Nat) (H J : Heap) : Hs := (.sym (.pur 22000187 (.pointer (some ⟨b1, o1, none⟩)) (.bas 7000188 (.agg ⟨[(.int .i64 x0), (.int .i64 x1), (.int .i64 x2)]⟩) (.join 4 (.con (.con (.con (.con .nil)))) (.con (.con (.con (.con .nil)))) (.join 4 (.con (.con (.con (.con .nil)))) (.con (.con (.con (.con .nil)))) (.join 5 (.con (.con (.con (.con (.con .nil))))) (.con (.con (.con (.con (.con .nil))))) (.join 4 (.con (.con (.con (.con .nil)))) (.con (.con (.con (.con .nil)))) (.join 4 (.con (.con (.con (.con .nil)))) (.con (.con (.con (.con .nil)))) (.sym .nil .nil)))))))) .nil)
theorem tree42c (al an a0 a1 a2 : Option Addr) (nl cl nn cn n0 c0 n1 c1 n2 c2 : Nat) (y mo ba fe re ta ad cu oc ic la lo ce : Int) (x0 x1 x2 i s_ : Int) (b1 o1 : Nat) (H J : Heap) : pieceS tblD (gE 0) (cE 0) 100 (fun i => exL i body42_4 || inL [1, 2] i) body42_4 (hn42c al an a0 a1 a2 nl cl nn cn n0 c0 n1 c1 n2 c2 y mo ba fe re ta ad cu oc ic la lo ce x0 x1 x2 i s_ b1 o1 H J) (frS 232 [(1, (.ptr 1 0)), (2, (sB false)), (6, (sI s_)), (183, (.raw (.slice an nn cn))), (184, (sI (nn : Int))), (185, (sI i))]) [.seg H, .blk .fix [(sI y), (sI mo), (sI ba), (.raw (.slice al nl cl)), (.raw (.slice an nn cn)), (sI fe), (sI re), (sI ta), (sI ad), (sI cu), (sI oc), (sI ic), (sI la), (sI lo), (sI ce), (.raw (.slice a0 n0 c0)), (.raw (.slice a1 n1 c1)), (.raw (.slice a2 n2 c2))], .blk .fix [(sI oc), (sI ic), (sI la), (sI lo), (sI ce)], .blk .fix [(sI oc), (sI ic), (sI la), (sI lo), (sI ce)], .seg J] =
(.br (decide (i < (nn : Int)))
 (.claim (opA (Plain.env tblD (gE 0)) (.iadr 3 none (.const (.slice an nn cn)) (.const (.int .i64 i))) [] [] = some ((.pointer (some ⟨b1, o1, none⟩)), []))
 (.claim (opA (Plain.env tblD (gE 0)) (.load (.const (.pointer (some ⟨b1, o1, none⟩))) (some 3)) [] H = some ((.agg ⟨[(.int .i64 x0), (.int .i64 x1), (.int .i64 x2)]⟩), H))
 (.req (bif (decide (x0 < 0)) then true else true) (.req (bif (bif (decide (x0 < 0)) then true else (decide (x0 ≥ 8))) then true else true) (.req (bif (bif (bif (decide (x0 < 0)) then true else (decide (x0 ≥ 8))) then true else (decide (x1 < 1))) then true else true) (.req (bif (bif (bif (bif (decide (x0 < 0)) then true else (decide (x0 ≥ 8))) then true else (decide (x1 < 1))) then true else (decide (x1 > s_))) then true else true) (.req (bif (bif (bif (bif (bif (decide (x0 < 0)) then true else (decide (x0 ≥ 8))) then true else (decide (x1 < 1))) then true else (decide (x1 > s_))) then true else (decide (x2 < 0))) then true else true) (.br (bif (bif (bif (bif (bif (decide (x0 < 0)) then true else (decide (x0 ≥ 8))) then true else (decide (x1 < 1))) then true else (decide (x1 > s_))) then true else (decide (x2 < 0))) then true else (decide (x2 > 5000)))
 (.ret .ret (frS 232 [(1, (.ptr 1 0)), (2, (sB false)), (6, (sI s_)), (183, (.raw (.slice an nn cn))), (184, (sI (nn : Int))), (185, (sI i))]) [.seg H, .blk .fix [(sI y), (sI mo), (sI ba), (.raw (.slice al nl cl)), (.raw (.slice an nn cn)), (sI fe), (sI re), (sI ta), (sI ad), (sI cu), (sI oc), (sI ic), (sI la), (sI lo), (sI ce), (.raw (.slice a0 n0 c0)), (.raw (.slice a1 n1 c1)), (.raw (.slice a2 n2 c2))], .blk .fix [(sI oc), (sI ic), (sI la), (sI lo), (sI ce)], .blk .fix [(sI oc), (sI ic), (sI la), (sI lo), (sI ce)], .seg J, .blk .fix [(sI x0), (sI x1), (sI x2)]])
 (.ret .normal (frS 232 [(1, (.ptr 1 0)), (2, (sB false)), (6, (sI (IntKind.wrap .i64 (s_ - x1)))), (183, (.raw (.slice an nn cn))), (184, (sI (nn : Int))), (185, (sI (IntKind.wrap .i64 (i + 1))))]) [.seg H, .blk .fix [(sI y), (sI mo), (sI ba), (.raw (.slice al nl cl)), (.raw (.slice an nn cn)), (sI fe), (sI re), (sI ta), (sI ad), (sI cu), (sI oc), (sI ic), (sI la), (sI lo), (sI ce), (.raw (.slice a0 n0 c0)), (.raw (.slice a1 n1 c1)), (.raw (.slice a2 n2 c2))], .blk .fix [(sI oc), (sI ic), (sI la), (sI lo), (sI ce)], .blk .fix [(sI oc), (sI ic), (sI la), (sI lo), (sI ce)], .seg J, .blk .fix [(sI x0), (sI x1), (sI x2)]])))))))))
 (.ret (.exit 4) (frS 232 [(1, (.ptr 1 0)), (2, (sB false)), (6, (sI s_)), (183, (.raw (.slice an nn cn))), (184, (sI (nn : Int))), (185, (sI i))]) [.seg H, .blk .fix [(sI y), (sI mo), (sI ba), (.raw (.slice al nl cl)), (.raw (.slice an nn cn)), (sI fe), (sI re), (sI ta), (sI ad), (sI cu), (sI oc), (sI ic), (sI la), (sI lo), (sI ce), (.raw (.slice a0 n0 c0)), (.raw (.slice a1 n1 c1)), (.raw (.slice a2 n2 c2))], .blk .fix [(sI oc), (sI ic), (sI la), (sI lo), (sI ce)], .blk .fix [(sI oc), (sI ic), (sI la), (sI lo), (sI ce)], .seg J])) := by kernel_rfl
theorem loop2 {H : Heap} {al an a0 a1 a2 : Option Addr} {cl cn c0 c1 c2 : Nat} {d : DV} (ha : RowsW 2 H (.slice al d.l.length cl) (d.l.map e2)) (hl : d.l.length ≤ 64) :
    Wp (Plain.env tblD (gE 0)) (inL [1, 2, 6]) (.block 2 (.loop body42_2)) (denF [.seg H, .blk .fix [sI d.y, sI d.mo, sI d.ba, .raw (.slice al d.l.length cl), .raw (.slice an d.n.length cn), sI d.fe, sI d.re, sI d.ta, sI d.ad, sI d.cu, sI d.oc, sI d.ic, sI d.la, sI d.lo, sI d.ce, .raw (.slice a0 d.s0.length c0), .raw (.slice a1 d.s1.length c1), .raw (.slice a2 d.s2.length c2)], .blk .fix [sI d.oc, sI d.ic, sI d.la, sI d.lo, sI d.ce], .blk .fix [sI d.oc, sI d.ic, sI d.la, sI d.lo, sI d.ce]] (frS 232 [(1, (.ptr 1 0)), (2, (sB false)), (6, (sI 0)), (139, (.raw (.slice al d.l.length cl))), (140, (sI (d.l.length : Int))), (141, (sI 0))])) (denH [.seg H, .blk .fix [sI d.y, sI d.mo, sI d.ba, .raw (.slice al d.l.length cl), .raw (.slice an d.n.length cn), sI d.fe, sI d.re, sI d.ta, sI d.ad, sI d.cu, sI d.oc, sI d.ic, sI d.la, sI d.lo, sI d.ce, .raw (.slice a0 d.s0.length c0), .raw (.slice a1 d.s1.length c1), .raw (.slice a2 d.s2.length c2)], .blk .fix [sI d.oc, sI d.ic, sI d.la, sI d.lo, sI d.ce], .blk .fix [sI d.oc, sI d.ic, sI d.la, sI d.lo, sI d.ce]]) fun e s h => ∃ (X : Heap) (r : Int), s = denF [.seg H, .blk .fix [sI d.y, sI d.mo, sI d.ba, .raw (.slice al d.l.length cl), .raw (.slice an d.n.length cn), sI d.fe, sI d.re, sI d.ta, sI d.ad, sI d.cu, sI d.oc, sI d.ic, sI d.la, sI d.lo, sI d.ce, .raw (.slice a0 d.s0.length c0), .raw (.slice a1 d.s1.length c1), .raw (.slice a2 d.s2.length c2)], .blk .fix [sI d.oc, sI d.ic, sI d.la, sI d.lo, sI d.ce], .blk .fix [sI d.oc, sI d.ic, sI d.la, sI d.lo, sI d.ce], .seg X] (frS 232 [(1, (.ptr 1 0)), (2, (sB false)), (6, (sI r))]) ∧ h = denH [.seg H, .blk .fix [sI d.y, sI d.mo, sI d.ba, .raw (.slice al d.l.length cl), .raw (.slice an d.n.length cn), sI d.fe, sI d.re, sI d.ta, sI d.ad, sI d.cu, sI d.oc, sI d.ic, sI d.la, sI d.lo, sI d.ce, .raw (.slice a0 d.s0.length c0), .raw (.slice a1 d.s1.length c1), .raw (.slice a2 d.s2.length c2)], .blk .fix [sI d.oc, sI d.ic, sI d.la, sI d.lo, sI d.ce], .blk .fix [sI d.oc, sI d.ic, sI d.la, sI d.lo, sI d.ce], .seg X] ∧
      ((e = .normal ∧ lnG 0 0 d.l = (r, true)) ∨ (e = .ret ∧ lnG 0 0 d.l = (0, false))) := by
  refine Wp.bl (fun m t h => ∃ (i : Nat) (J : Heap) (last all : Int), i + m = d.l.length ∧ t = denF [.seg H, .blk .fix [sI d.y, sI d.mo, sI d.ba, .raw (.slice al d.l.length cl), .raw (.slice an d.n.length cn), sI d.fe, sI d.re, sI d.ta, sI d.ad, sI d.cu, sI d.oc, sI d.ic, sI d.la, sI d.lo, sI d.ce, .raw (.slice a0 d.s0.length c0), .raw (.slice a1 d.s1.length c1), .raw (.slice a2 d.s2.length c2)], .blk .fix [sI d.oc, sI d.ic, sI d.la, sI d.lo, sI d.ce], .blk .fix [sI d.oc, sI d.ic, sI d.la, sI d.lo, sI d.ce], .seg J] (frS 232 [(1, (.ptr 1 0)), (2, (sB false)), (6, (sI all)), (139, (.raw (.slice al d.l.length cl))), (140, (sI (d.l.length : Int))), (141, (sI i))]) ∧ h = denH [.seg H, .blk .fix [sI d.y, sI d.mo, sI d.ba, .raw (.slice al d.l.length cl), .raw (.slice an d.n.length cn), sI d.fe, sI d.re, sI d.ta, sI d.ad, sI d.cu, sI d.oc, sI d.ic, sI d.la, sI d.lo, sI d.ce, .raw (.slice a0 d.s0.length c0), .raw (.slice a1 d.s1.length c1), .raw (.slice a2 d.s2.length c2)], .blk .fix [sI d.oc, sI d.ic, sI d.la, sI d.lo, sI d.ce], .blk .fix [sI d.oc, sI d.ic, sI d.la, sI d.lo, sI d.ce], .seg J] ∧ 0 ≤ all ∧ all ≤ 1099511627776 ∧ 0 ≤ last ∧ (i = 0 → last = 0 ∧ all = 0 ∧ J = []) ∧ (∀ z, 0 < i → d.l[i - 1]? = some z → last = z.a) ∧ lnG 0 0 d.l = lnG last all (d.l.drop i)) ?_ d.l.length _ _
    ⟨0, [], 0, 0, by omega, by show denF _ _ = denF _ _; kernel_rfl, by simp [denH, denL, It.den, den0, e2, e3], by omega, by omega, by omega, fun _ => ⟨rfl, rfl, rfl⟩, fun z q => absurd q (by decide), rfl⟩
  rintro m t h ⟨i, J, last, all, hi, rfl, rfl, h0, h1, hl0, hi0, hip, hg⟩
  by_cases hlt : i < d.l.length
  · obtain ⟨x, hx⟩ := getE hlt
    obtain ⟨b1, o1, r1⟩ := ha.rowM hx
    rw [drop_at hx] at hg
    have w1 : IntKind.wrap .i64 (1099511627776 - all) = 1099511627776 - all := wrap64 (by omega) (by omega)
    have stop : (x.a ≤ last ∨ ¬ (0 ≤ x.b ∧ x.b ≤ 1099511627776 - all)) → lnG 0 0 d.l = (0, false) := fun hc => by
      simp only [lnG, if_pos hc] at hg; exact hg
    have next : ¬ (x.a ≤ last ∨ ¬ (0 ≤ x.b ∧ x.b ≤ 1099511627776 - all)) → lnG 0 0 d.l = lnG x.a (all + x.b) (d.l.drop (i + 1)) := fun hc => by
      simp only [lnG, if_neg hc] at hg; exact hg
    have nz : ∀ z, 0 < i + 1 → d.l[i + 1 - 1]? = some z → x.a = z.a := fun z _ hz => by
      rw [Nat.add_sub_cancel, hx] at hz; cases hz; rfl
    by_cases hz : i = 0
    · subst hz
      obtain ⟨rfl, rfl, rfl⟩ := hi0 rfl
      have key : (bif (bif (bif (decide (x.a < 1)) then true else false) then true else (decide (x.b < 0))) then true else (decide (x.b > 1099511627776))) = true ↔ (x.a ≤ 0 ∨ ¬ (0 ≤ x.b ∧ x.b ≤ 1099511627776 - 0)) := by
        simp [Bool.cond_eq_ite]
        omega
      have eH : denH [.seg H, .blk .fix [sI d.y, sI d.mo, sI d.ba, .raw (.slice al d.l.length cl), .raw (.slice an d.n.length cn), sI d.fe, sI d.re, sI d.ta, sI d.ad, sI d.cu, sI d.oc, sI d.ic, sI d.la, sI d.lo, sI d.ce, .raw (.slice a0 d.s0.length c0), .raw (.slice a1 d.s1.length c1), .raw (.slice a2 d.s2.length c2)], .blk .fix [sI d.oc, sI d.ic, sI d.la, sI d.lo, sI d.ce], .blk .fix [sI d.oc, sI d.ic, sI d.la, sI d.lo, sI d.ce], .seg []] = denH [.seg H, .blk .fix [sI d.y, sI d.mo, sI d.ba, .raw (.slice al d.l.length cl), .raw (.slice an d.n.length cn), sI d.fe, sI d.re, sI d.ta, sI d.ad, sI d.cu, sI d.oc, sI d.ic, sI d.la, sI d.lo, sI d.ce, .raw (.slice a0 d.s0.length c0), .raw (.slice a1 d.s1.length c1), .raw (.slice a2 d.s2.length c2)], .blk .fix [sI d.oc, sI d.ic, sI d.la, sI d.lo, sI d.ce], .blk .fix [sI d.oc, sI d.ic, sI d.la, sI d.lo, sI d.ce]] := by simp [denH, denL, It.den, den0, e2, e3]
      have eF : denF [.seg H, .blk .fix [sI d.y, sI d.mo, sI d.ba, .raw (.slice al d.l.length cl), .raw (.slice an d.n.length cn), sI d.fe, sI d.re, sI d.ta, sI d.ad, sI d.cu, sI d.oc, sI d.ic, sI d.la, sI d.lo, sI d.ce, .raw (.slice a0 d.s0.length c0), .raw (.slice a1 d.s1.length c1), .raw (.slice a2 d.s2.length c2)], .blk .fix [sI d.oc, sI d.ic, sI d.la, sI d.lo, sI d.ce], .blk .fix [sI d.oc, sI d.ic, sI d.la, sI d.lo, sI d.ce], .seg []] (frS 232 [(1, (.ptr 1 0)), (2, (sB false)), (6, (sI 0)), (139, (.raw (.slice al d.l.length cl))), (140, (sI (d.l.length : Int))), (141, (sI ((0 : Nat) : Int)))]) = denF [.seg H, .blk .fix [sI d.y, sI d.mo, sI d.ba, .raw (.slice al d.l.length cl), .raw (.slice an d.n.length cn), sI d.fe, sI d.re, sI d.ta, sI d.ad, sI d.cu, sI d.oc, sI d.ic, sI d.la, sI d.lo, sI d.ce, .raw (.slice a0 d.s0.length c0), .raw (.slice a1 d.s1.length c1), .raw (.slice a2 d.s2.length c2)], .blk .fix [sI d.oc, sI d.ic, sI d.la, sI d.lo, sI d.ce], .blk .fix [sI d.oc, sI d.ic, sI d.la, sI d.lo, sI d.ce]] (frS 232 [(1, (.ptr 1 0)), (2, (sB false)), (6, (sI 0)), (139, (.raw (.slice al d.l.length cl))), (140, (sI (d.l.length : Int))), (141, (sI 0))]) := by show denF _ _ = denF _ _; kernel_rfl
      rw [eH, eF]
      refine Wp.tree (cE_ok 0) (tree42a al an a0 a1 a2 d.l.length cl d.n.length cn d.s0.length c0 d.s1.length c1 d.s2.length c2 d.y d.mo d.ba d.fe d.re d.ta d.ad d.cu d.oc d.ic d.la d.lo d.ce x.a x.b b1 o1 H) ⟨rfl, rfl⟩ ⟨by simp; omega, r1.ptr _ _, r1.all _, rfl, by simp, by simp, by simp, fun hc => end_ret ⟨[some ⟨.fix, e2 x⟩], 0, by show denF _ _ = denF _ _; kernel_rfl, by simp [denH, denL, It.den, den0, e2, e3], .inr ⟨rfl, stop (key.1 hc)⟩⟩, fun hc => ?_⟩
      have hc' : ¬ (x.a ≤ 0 ∨ ¬ (0 ≤ x.b ∧ x.b ≤ 1099511627776 - 0)) := fun q => by rw [key.2 q] at hc; cases hc
      refine end_next (m - 1) (by omega) ⟨1, [some ⟨.fix, e2 x⟩], x.a, 0 + x.b, by omega, ?_, by simp [denH, denL, It.den, den0, e2, e3], by omega, by omega, by omega, fun q => by omega, nz, next hc'⟩
      rw [wrap64 (x := 0 + x.b) (by omega) (by omega)]
      show denF _ _ = denF _ _
      kernel_rfl
    · obtain ⟨z, hz1⟩ := getE (show i - 1 < d.l.length by omega)
      obtain ⟨b0, o0, r0⟩ := ha.rowM hz1
      have hla := hip z (by omega) hz1
      subst hla
      have ei : IntKind.wrap .i64 ((i : Int) - 1) = ((i - 1 : Nat) : Int) := by rw [wrap64 (by omega) (by omega)]; omega
      have fin2 : ∀ J' : Heap, ¬ (x.a ≤ z.a ∨ ¬ (0 ≤ x.b ∧ x.b ≤ 1099511627776 - all)) → True := fun _ _ => trivial
      refine Wp.tree (cE_ok 0) (tree42b al an a0 a1 a2 d.l.length cl d.n.length cn d.s0.length c0 d.s1.length c1 d.s2.length c2 d.y d.mo d.ba d.fe d.re d.ta d.ad d.cu d.oc d.ic d.la d.lo d.ce x.a x.b z.a z.b i all b0 o0 b1 o1 H J) ⟨rfl, rfl⟩ ⟨by simp; omega, r1.ptr _ _, r1.all _, rfl, fun hc => end_ret ⟨J ++ [some ⟨.fix, e2 x⟩], all, by show denF _ _ = denF _ _; kernel_rfl, by simp [denH, denL, It.den, den0, e2, e3], .inr ⟨rfl, stop (.inl (by simp at hc; omega))⟩⟩, fun hc0 => ⟨by simp; omega, by rw [ei]; exact r0.ptr _ _, r0.fld _ 0 _ rfl, by simp, by simp, fun hc => end_ret ⟨J ++ [some ⟨.fix, e2 x⟩], all, by show denF _ _ = denF _ _; kernel_rfl, by simp [denH, denL, It.den, den0, e2, e3], .inr ⟨rfl, stop ?_⟩⟩, fun hc => ?_⟩⟩
      · rw [w1] at hc
        simp [Bool.cond_eq_ite] at hc
        omega
      · rw [w1] at hc
        simp [Bool.cond_eq_ite] at hc hc0
        refine end_next (m - 1) (by omega) ⟨i + 1, J ++ [some ⟨.fix, e2 x⟩], x.a, all + x.b, by omega, ?_, by simp [denH, denL, It.den, den0, e2, e3], by omega, by omega, by omega, fun q => by omega, nz, next (by omega)⟩
        rw [wrap64 (x := (i : Int) + 1) (by omega) (by omega), wrap64 (x := all + x.b) (by omega) (by omega)]
        show denF _ _ = denF _ _
        kernel_rfl
  · have hil : i = d.l.length := by omega
    refine Wp.tree (cE_ok 0) (tree42e al an a0 a1 a2 d.l.length cl d.n.length cn d.s0.length c0 d.s1.length c1 d.s2.length c2 d.y d.mo d.ba d.fe d.re d.ta d.ad d.cu d.oc d.ic d.la d.lo d.ce i all H J) ⟨rfl, rfl⟩ ⟨by simp; omega, end_exit ⟨J, all, by show denF _ _ = denF _ _; kernel_rfl, rfl, .inl ⟨rfl, ?_⟩⟩⟩
    rw [hg, hil, List.drop_length]; rfl
end V
end D
end Go.Proofs.Ytgdojnamjkhknaa
