/-
  The law TestsTell, in plain Lean.
-/
import Derived.Test.YtjnppjipoibbeaaPcMul
namespace Go.Proofs.Ytjnppjipoibbeaa.Tests
open Go.Am Late lateRatios RefMul
set_option linter.all false
set_option maxRecDepth 100000
def tblR : Plain := (21, sRef) :: tblT
def il4 : FnIL := ⟨202, [.tmp 8],
  .seq (.reg [
     ⟨(some 4), none, .box (.tmp 0)⟩,
     ⟨(some 5), none, .box (.tmp 1)⟩,
     ⟨(some 8), none, .mov (.const (.bool false))⟩])
  (.seq (.seq (.reg [
      ⟨(some 18), none, .fadr 0 (.tmp 4)⟩,
      ⟨(some 19), none, .fadr 1 (.tmp 4)⟩,
      ⟨(some 20), none, .fadr 2 (.tmp 4)⟩,
      ⟨(some 21), none, .fadr 3 (.tmp 4)⟩,
      ⟨(some 22), none, .fadr 4 (.tmp 4)⟩,
      ⟨(some 23), none, .mkrow [(.pointer none), (.pointer none), (.pointer none), (.pointer none), (.pointer none)] 5 [(0, 1, (.tmp 18)), (1, 1, (.tmp 19)), (2, 1, (.tmp 20)), (3, 1, (.tmp 21)), (4, 1, (.tmp 22))]⟩,
      ⟨(some 24), none, .len (.tmp 23)⟩,
      ⟨(some 25), none, .mov (.const (.int .i64 0))⟩])
   (.block 0
     (.loop
       (.seq (.reg [
          ⟨(some 26), none, .bin .lss (.tmp 25) (.tmp 24)⟩])
       (.seq (.ite (.tmp 26)
          (.skip)
          (.exit 0))
       (.seq (.block 1
          (.seq (.reg [
             ⟨(some 27), none, .iadr 1 none (.tmp 23) (.tmp 25)⟩,
             ⟨(some 28), none, .load (.tmp 27) none⟩,
             ⟨(some 10), none, .mov (.tmp 28)⟩])
          (.reg [
            ⟨(some 29), none, .mov (.tmp 10)⟩,
            ⟨(some 30), none, .mov (.tmp 10)⟩,
            ⟨(some 31), none, .nilck (.tmp 30)⟩,
            ⟨(some 32), none, .load (.tmp 31) none⟩,
            ⟨(some 33), none, .call 19 [(.tmp 32), (.const (.int .i64 0)), (.const (.int .i64 100000))]⟩,
            ⟨(some 34), none, .nilck (.tmp 29)⟩,
            ⟨none, none, .store (.tmp 34) (.tmp 33) 1⟩])))
       (.reg [
         ⟨(some 35), none, .bin .add (.tmp 25) (.const (.int .i64 1))⟩,
         ⟨(some 25), none, .mov (.tmp 35)⟩])))))))
  (.seq (.seq (.reg [
      ⟨(some 36), none, .fadr 0 (.tmp 5)⟩,
      ⟨(some 37), none, .fadr 1 (.tmp 5)⟩,
      ⟨(some 38), none, .fadr 2 (.tmp 5)⟩,
      ⟨(some 39), none, .fadr 3 (.tmp 5)⟩,
      ⟨(some 40), none, .fadr 4 (.tmp 5)⟩,
      ⟨(some 41), none, .fadr 5 (.tmp 5)⟩,
      ⟨(some 42), none, .fadr 6 (.tmp 5)⟩,
      ⟨(some 43), none, .mkrow [(.pointer none), (.pointer none), (.pointer none), (.pointer none), (.pointer none), (.pointer none), (.pointer none)] 7 [(0, 1, (.tmp 36)), (1, 1, (.tmp 37)), (2, 1, (.tmp 38)), (3, 1, (.tmp 39)), (4, 1, (.tmp 40)), (5, 1, (.tmp 41)), (6, 1, (.tmp 42))]⟩,
      ⟨(some 44), none, .len (.tmp 43)⟩,
      ⟨(some 45), none, .mov (.const (.int .i64 0))⟩])
   (.block 2
     (.loop
       (.seq (.reg [
          ⟨(some 46), none, .bin .lss (.tmp 45) (.tmp 44)⟩])
       (.seq (.ite (.tmp 46)
          (.skip)
          (.exit 2))
       (.seq (.block 3
          (.seq (.reg [
             ⟨(some 47), none, .iadr 1 none (.tmp 43) (.tmp 45)⟩,
             ⟨(some 48), none, .load (.tmp 47) none⟩,
             ⟨(some 12), none, .mov (.tmp 48)⟩])
          (.reg [
            ⟨(some 49), none, .mov (.tmp 12)⟩,
            ⟨(some 50), none, .mov (.tmp 12)⟩,
            ⟨(some 51), none, .nilck (.tmp 50)⟩,
            ⟨(some 52), none, .load (.tmp 51) none⟩,
            ⟨(some 53), none, .call 20 [(.tmp 52)]⟩,
            ⟨(some 54), none, .nilck (.tmp 49)⟩,
            ⟨none, none, .store (.tmp 54) (.tmp 53) 1⟩])))
       (.reg [
         ⟨(some 55), none, .bin .add (.tmp 45) (.const (.int .i64 1))⟩,
         ⟨(some 45), none, .mov (.tmp 55)⟩])))))))
  (.seq (.seq (.reg [
      ⟨(some 56), none, .mov (.tmp 2)⟩,
      ⟨(some 57), none, .bin .and (.tmp 56) (.const (.int .i64 1))⟩,
      ⟨(some 58), none, .bin .eql (.tmp 57) (.const (.int .i64 0))⟩])
   (.ite (.tmp 58)
     (.seq (.reg [
        ⟨(some 59), none, .fadr 2 (.tmp 5)⟩,
        ⟨none, none, .store (.tmp 59) (.const (.int .i64 10000)) 1⟩])
     (.seq (.dreg [
        ⟨(some 60), none, .fadr 0 (.tmp 4)⟩,
        ⟨(some 61), none, .load (.tmp 60) none⟩,
        ⟨(some 62), none, .mov (.tmp 2)⟩,
        ⟨(some 63), none, .bin .quo (.tmp 62) (.const (.int .i64 2))⟩,
        ⟨(some 64), none, .call 19 [(.tmp 63), (.const (.int .i64 0)), (.const (.int .i64 4))]⟩,
        ⟨(some 65), none, .bin .add (.tmp 61) (.tmp 64)⟩,
        ⟨(some 66), none, .bin .sub (.tmp 65) (.const (.int .i64 2))⟩,
        ⟨(some 67), none, .fadr 0 (.tmp 5)⟩,
        ⟨none, none, .store (.tmp 67) (.tmp 66) 1⟩] [])
     (.reg [
       ⟨(some 68), none, .fadr 0 (.tmp 5)⟩,
       ⟨(some 69), none, .load (.tmp 68) none⟩,
       ⟨(some 70), none, .mx (.tmp 69) (.const (.int .i64 0))⟩,
       ⟨(some 71), none, .fadr 0 (.tmp 5)⟩,
       ⟨none, none, .store (.tmp 71) (.tmp 70) 1⟩])))
     (.skip)))
  (.seq (.seq (.reg [
      ⟨(some 72), none, .mov (.tmp 3)⟩,
      ⟨(some 73), none, .call 19 [(.tmp 72), (.const (.int .i64 0)), (.const (.int .i64 9))]⟩])
   (.block 4
     (.seq (.reg [
        ⟨(some 75), none, .bin .eql (.tmp 73) (.const (.int .i64 0))⟩,
        ⟨(some 74), none, .mov (.tmp 75)⟩])
     (.ite (.tmp 74)
       (.reg [
         ⟨(some 76), none, .fadr 0 (.tmp 4)⟩,
         ⟨none, none, .store (.tmp 76) (.const (.int .i64 0)) 1⟩])
       (.seq (.reg [
          ⟨(some 78), none, .bin .eql (.tmp 73) (.const (.int .i64 1))⟩,
          ⟨(some 77), none, .mov (.tmp 78)⟩])
       (.ite (.tmp 77)
         (.reg [
           ⟨(some 79), none, .fadr 1 (.tmp 4)⟩,
           ⟨none, none, .store (.tmp 79) (.const (.int .i64 0)) 1⟩])
         (.seq (.reg [
            ⟨(some 81), none, .bin .eql (.tmp 73) (.const (.int .i64 2))⟩,
            ⟨(some 80), none, .mov (.tmp 81)⟩])
         (.ite (.tmp 80)
           (.reg [
             ⟨(some 82), none, .fadr 2 (.tmp 4)⟩,
             ⟨none, none, .store (.tmp 82) (.const (.int .i64 0)) 1⟩])
           (.seq (.reg [
              ⟨(some 84), none, .bin .eql (.tmp 73) (.const (.int .i64 3))⟩,
              ⟨(some 83), none, .mov (.tmp 84)⟩])
           (.ite (.tmp 83)
             (.reg [
               ⟨(some 85), none, .fadr 3 (.tmp 4)⟩,
               ⟨none, none, .store (.tmp 85) (.const (.int .i64 0)) 1⟩])
             (.seq (.reg [
                ⟨(some 87), none, .bin .eql (.tmp 73) (.const (.int .i64 4))⟩,
                ⟨(some 86), none, .mov (.tmp 87)⟩])
             (.ite (.tmp 86)
               (.reg [
                 ⟨(some 88), none, .fadr 4 (.tmp 4)⟩,
                 ⟨none, none, .store (.tmp 88) (.const (.int .i64 0)) 1⟩])
               (.skip)))))))))))))
  (.seq (.reg [
     ⟨(some 89), none, .load (.tmp 4) (some 5)⟩,
     ⟨(some 90), none, .load (.tmp 5) (some 7)⟩,
     ⟨(some 91), none, .call 15 [(.tmp 89), (.tmp 90)]⟩,
     ⟨(some 13), none, .alloc [(.bool false), (.bool false), (.bool false), (.bool false)]⟩,
     ⟨none, none, .store (.tmp 13) (.tmp 91) 4⟩])
  (.seq (.dreg [
     ⟨(some 92), none, .fadr 0 (.tmp 4)⟩,
     ⟨(some 93), none, .load (.tmp 92) none⟩,
     ⟨(some 94), none, .bin .eql (.tmp 93) (.const (.int .i64 0))⟩,
     ⟨(some 95), none, .mov (.tmp 94)⟩,
     ⟨(some 96), (some (95, false)), .fadr 0 (.tmp 5)⟩,
     ⟨(some 97), (some (95, false)), .load (.tmp 96) none⟩,
     ⟨(some 98), (some (95, false)), .fadr 2 (.tmp 5)⟩,
     ⟨(some 99), (some (95, false)), .load (.tmp 98) none⟩,
     ⟨(some 100), (some (95, false)), .fadr 0 (.tmp 4)⟩,
     ⟨(some 101), (some (95, false)), .load (.tmp 100) none⟩,
     ⟨(some 102), (some (95, false)), .call 21 [(.tmp 97), (.tmp 99), (.tmp 101)]⟩,
     ⟨(some 103), none, .pick (.tmp 95) (.const (.bool true)) (.tmp 102)⟩,
     ⟨(some 104), none, .fadr 1 (.tmp 4)⟩,
     ⟨(some 105), none, .load (.tmp 104) none⟩,
     ⟨(some 106), none, .bin .eql (.tmp 105) (.const (.int .i64 0))⟩,
     ⟨(some 107), none, .mov (.tmp 106)⟩,
     ⟨(some 108), (some (107, false)), .fadr 3 (.tmp 5)⟩,
     ⟨(some 109), (some (107, false)), .load (.tmp 108) none⟩,
     ⟨(some 110), (some (107, false)), .fadr 4 (.tmp 5)⟩,
     ⟨(some 111), (some (107, false)), .load (.tmp 110) none⟩,
     ⟨(some 112), (some (107, false)), .fadr 1 (.tmp 4)⟩,
     ⟨(some 113), (some (107, false)), .load (.tmp 112) none⟩,
     ⟨(some 114), (some (107, false)), .call 21 [(.tmp 109), (.tmp 111), (.tmp 113)]⟩,
     ⟨(some 115), none, .pick (.tmp 107) (.const (.bool true)) (.tmp 114)⟩,
     ⟨(some 14), none, .mov (.tmp 103)⟩,
     ⟨(some 15), none, .mov (.tmp 115)⟩] [])
  (.seq (.dreg [
     ⟨(some 116), none, .fadr 2 (.tmp 4)⟩,
     ⟨(some 117), none, .load (.tmp 116) none⟩,
     ⟨(some 118), none, .bin .eql (.tmp 117) (.const (.int .i64 0))⟩,
     ⟨(some 119), none, .mov (.tmp 118)⟩,
     ⟨(some 120), (some (119, false)), .fadr 5 (.tmp 5)⟩,
     ⟨(some 121), (some (119, false)), .load (.tmp 120) none⟩,
     ⟨(some 122), (some (119, false)), .bin .mul (.tmp 121) (.const (.int .i64 10000))⟩,
     ⟨(some 123), (some (119, false)), .fadr 0 (.tmp 5)⟩,
     ⟨(some 124), (some (119, false)), .load (.tmp 123) none⟩,
     ⟨(some 125), (some (119, false)), .fadr 2 (.tmp 4)⟩,
     ⟨(some 126), (some (119, false)), .load (.tmp 125) none⟩,
     ⟨(some 127), (some (119, false)), .bin .mul (.tmp 124) (.tmp 126)⟩,
     ⟨(some 128), (some (119, false)), .bin .leq (.tmp 122) (.tmp 127)⟩,
     ⟨(some 129), none, .pick (.tmp 119) (.const (.bool true)) (.tmp 128)⟩,
     ⟨(some 130), none, .fadr 3 (.tmp 4)⟩,
     ⟨(some 131), none, .load (.tmp 130) none⟩,
     ⟨(some 132), none, .bin .eql (.tmp 131) (.const (.int .i64 0))⟩,
     ⟨(some 133), none, .mov (.tmp 132)⟩,
     ⟨(some 134), (some (133, false)), .fadr 6 (.tmp 5)⟩,
     ⟨(some 135), (some (133, false)), .load (.tmp 134) none⟩,
     ⟨(some 136), (some (133, false)), .bin .mul (.tmp 135) (.const (.int .i64 10000))⟩,
     ⟨(some 137), (some (133, false)), .fadr 1 (.tmp 5)⟩,
     ⟨(some 138), (some (133, false)), .load (.tmp 137) none⟩,
     ⟨(some 139), (some (133, false)), .fadr 3 (.tmp 4)⟩,
     ⟨(some 140), (some (133, false)), .load (.tmp 139) none⟩,
     ⟨(some 141), (some (133, false)), .bin .mul (.tmp 138) (.tmp 140)⟩,
     ⟨(some 142), (some (133, false)), .bin .leq (.tmp 136) (.tmp 141)⟩,
     ⟨(some 143), none, .pick (.tmp 133) (.const (.bool true)) (.tmp 142)⟩,
     ⟨(some 16), none, .mov (.tmp 129)⟩,
     ⟨(some 17), none, .mov (.tmp 143)⟩] [])
  (.seq (.dreg [
     ⟨(some 144), none, .load (.tmp 13) (some 4)⟩,
     ⟨(some 145), none, .mov (.tmp 14)⟩,
     ⟨(some 146), none, .mov (.tmp 15)⟩,
     ⟨(some 147), none, .mov (.tmp 16)⟩,
     ⟨(some 148), none, .mov (.tmp 17)⟩,
     ⟨(some 149), none, .build [(.bool false), (.bool false), (.bool false), (.bool false)] [(0, 1, (.tmp 145)), (1, 1, (.tmp 146)), (2, 1, (.tmp 147)), (3, 1, (.tmp 148))]⟩,
     ⟨(some 150), none, .eqv false (.cells [true, true, true, true]) (.tmp 144) (.tmp 149)⟩,
     ⟨(some 151), none, .mov (.tmp 150)⟩,
     ⟨(some 152), (some (151, true)), .load (.tmp 13) (some 4)⟩,
     ⟨(some 153), (some (151, true)), .call 16 [(.tmp 152)]⟩,
     ⟨(some 154), (some (151, true)), .mov (.tmp 14)⟩,
     ⟨(some 155), (some (151, true)), .mov (.tmp 154)⟩,
     ⟨(some 156), (some (155, true)), .mov (.tmp 15)⟩,
     ⟨(some 157), (some (151, true)), .pick (.tmp 155) (.tmp 156) (.const (.bool false))⟩,
     ⟨(some 158), (some (151, true)), .mov (.tmp 157)⟩,
     ⟨(some 159), (some (158, true)), .mov (.tmp 16)⟩,
     ⟨(some 160), (some (151, true)), .pick (.tmp 158) (.tmp 159) (.const (.bool false))⟩,
     ⟨(some 161), (some (151, true)), .mov (.tmp 160)⟩,
     ⟨(some 162), (some (161, true)), .mov (.tmp 17)⟩,
     ⟨(some 163), (some (151, true)), .pick (.tmp 161) (.tmp 162) (.const (.bool false))⟩,
     ⟨(some 164), (some (151, true)), .eqv false .bool (.tmp 153) (.tmp 163)⟩,
     ⟨(some 165), none, .pick (.tmp 151) (.tmp 164) (.const (.bool false))⟩,
     ⟨(some 166), none, .mov (.tmp 165)⟩,
     ⟨(some 167), (some (166, true)), .load (.tmp 13) (some 4)⟩,
     ⟨(some 168), (some (166, true)), .call 17 [(.tmp 167)]⟩,
     ⟨(some 169), (some (166, true)), .mov (.tmp 14)⟩,
     ⟨(some 170), (some (166, true)), .mov (.tmp 169)⟩,
     ⟨(some 171), (some (170, true)), .mov (.tmp 16)⟩,
     ⟨(some 172), (some (166, true)), .pick (.tmp 170) (.tmp 171) (.const (.bool false))⟩,
     ⟨(some 173), (some (166, true)), .mov (.tmp 172)⟩,
     ⟨(some 174), (some (173, true)), .mov (.tmp 17)⟩,
     ⟨(some 175), (some (166, true)), .pick (.tmp 173) (.tmp 174) (.const (.bool false))⟩,
     ⟨(some 176), (some (166, true)), .un .not (.tmp 175)⟩,
     ⟨(some 177), (some (166, true)), .eqv false .bool (.tmp 168) (.tmp 176)⟩,
     ⟨(some 178), none, .pick (.tmp 166) (.tmp 177) (.const (.bool false))⟩,
     ⟨(some 179), none, .mov (.tmp 178)⟩,
     ⟨(some 180), (some (179, true)), .load (.tmp 4) (some 5)⟩,
     ⟨(some 181), (some (179, true)), .load (.tmp 5) (some 7)⟩,
     ⟨(some 182), (some (179, true)), .call 18 [(.tmp 180), (.tmp 181)]⟩,
     ⟨(some 183), (some (179, true)), .fadr 4 (.tmp 4)⟩,
     ⟨(some 184), (some (179, true)), .load (.tmp 183) none⟩,
     ⟨(some 185), (some (179, true)), .bin .gtr (.tmp 184) (.const (.int .i64 0))⟩,
     ⟨(some 186), (some (179, true)), .mov (.tmp 185)⟩,
     ⟨(some 187), (some (186, true)), .fadr 0 (.tmp 5)⟩,
     ⟨(some 188), (some (186, true)), .load (.tmp 187) none⟩,
     ⟨(some 189), (some (186, true)), .bin .mul (.tmp 188) (.const (.int .i64 10000))⟩,
     ⟨(some 190), (some (186, true)), .fadr 1 (.tmp 5)⟩,
     ⟨(some 191), (some (186, true)), .load (.tmp 190) none⟩,
     ⟨(some 192), (some (186, true)), .fadr 4 (.tmp 4)⟩,
     ⟨(some 193), (some (186, true)), .load (.tmp 192) none⟩,
     ⟨(some 194), (some (186, true)), .bin .mul (.tmp 191) (.tmp 193)⟩,
     ⟨(some 195), (some (186, true)), .bin .leq (.tmp 189) (.tmp 194)⟩,
     ⟨(some 196), (some (179, true)), .pick (.tmp 186) (.tmp 195) (.const (.bool false))⟩,
     ⟨(some 197), (some (179, true)), .eqv false .bool (.tmp 182) (.tmp 196)⟩,
     ⟨(some 198), none, .pick (.tmp 179) (.tmp 197) (.const (.bool false))⟩,
     ⟨(some 199), none, .mov (.tmp 198)⟩,
     ⟨(some 200), (some (199, true)), .call 3 []⟩,
     ⟨(some 201), none, .pick (.tmp 199) (.tmp 200) (.const (.bool false))⟩,
     ⟨(some 8), none, .mov (.tmp 201)⟩] [])
  (.ret)))))))))⟩
theorem st4 : stF Try.prog qt 4 = some il4 := by kernel_rfl
def il4b : IL := .seq (.reg [
     ⟨(some 89), none, .load (.tmp 4) (some 5)⟩,
     ⟨(some 90), none, .load (.tmp 5) (some 7)⟩,
     ⟨(some 91), none, .call 15 [(.tmp 89), (.tmp 90)]⟩,
     ⟨(some 13), none, .alloc [(.bool false), (.bool false), (.bool false), (.bool false)]⟩,
     ⟨none, none, .store (.tmp 13) (.tmp 91) 4⟩])
  (.seq (.dreg [
     ⟨(some 92), none, .fadr 0 (.tmp 4)⟩,
     ⟨(some 93), none, .load (.tmp 92) none⟩,
     ⟨(some 94), none, .bin .eql (.tmp 93) (.const (.int .i64 0))⟩,
     ⟨(some 95), none, .mov (.tmp 94)⟩,
     ⟨(some 96), (some (95, false)), .fadr 0 (.tmp 5)⟩,
     ⟨(some 97), (some (95, false)), .load (.tmp 96) none⟩,
     ⟨(some 98), (some (95, false)), .fadr 2 (.tmp 5)⟩,
     ⟨(some 99), (some (95, false)), .load (.tmp 98) none⟩,
     ⟨(some 100), (some (95, false)), .fadr 0 (.tmp 4)⟩,
     ⟨(some 101), (some (95, false)), .load (.tmp 100) none⟩,
     ⟨(some 102), (some (95, false)), .call 21 [(.tmp 97), (.tmp 99), (.tmp 101)]⟩,
     ⟨(some 103), none, .pick (.tmp 95) (.const (.bool true)) (.tmp 102)⟩,
     ⟨(some 104), none, .fadr 1 (.tmp 4)⟩,
     ⟨(some 105), none, .load (.tmp 104) none⟩,
     ⟨(some 106), none, .bin .eql (.tmp 105) (.const (.int .i64 0))⟩,
     ⟨(some 107), none, .mov (.tmp 106)⟩,
     ⟨(some 108), (some (107, false)), .fadr 3 (.tmp 5)⟩,
     ⟨(some 109), (some (107, false)), .load (.tmp 108) none⟩,
     ⟨(some 110), (some (107, false)), .fadr 4 (.tmp 5)⟩,
     ⟨(some 111), (some (107, false)), .load (.tmp 110) none⟩,
     ⟨(some 112), (some (107, false)), .fadr 1 (.tmp 4)⟩,
     ⟨(some 113), (some (107, false)), .load (.tmp 112) none⟩,
     ⟨(some 114), (some (107, false)), .call 21 [(.tmp 109), (.tmp 111), (.tmp 113)]⟩,
     ⟨(some 115), none, .pick (.tmp 107) (.const (.bool true)) (.tmp 114)⟩,
     ⟨(some 14), none, .mov (.tmp 103)⟩,
     ⟨(some 15), none, .mov (.tmp 115)⟩] [])
  (.seq (.dreg [
     ⟨(some 116), none, .fadr 2 (.tmp 4)⟩,
     ⟨(some 117), none, .load (.tmp 116) none⟩,
     ⟨(some 118), none, .bin .eql (.tmp 117) (.const (.int .i64 0))⟩,
     ⟨(some 119), none, .mov (.tmp 118)⟩,
     ⟨(some 120), (some (119, false)), .fadr 5 (.tmp 5)⟩,
     ⟨(some 121), (some (119, false)), .load (.tmp 120) none⟩,
     ⟨(some 122), (some (119, false)), .bin .mul (.tmp 121) (.const (.int .i64 10000))⟩,
     ⟨(some 123), (some (119, false)), .fadr 0 (.tmp 5)⟩,
     ⟨(some 124), (some (119, false)), .load (.tmp 123) none⟩,
     ⟨(some 125), (some (119, false)), .fadr 2 (.tmp 4)⟩,
     ⟨(some 126), (some (119, false)), .load (.tmp 125) none⟩,
     ⟨(some 127), (some (119, false)), .bin .mul (.tmp 124) (.tmp 126)⟩,
     ⟨(some 128), (some (119, false)), .bin .leq (.tmp 122) (.tmp 127)⟩,
     ⟨(some 129), none, .pick (.tmp 119) (.const (.bool true)) (.tmp 128)⟩,
     ⟨(some 130), none, .fadr 3 (.tmp 4)⟩,
     ⟨(some 131), none, .load (.tmp 130) none⟩,
     ⟨(some 132), none, .bin .eql (.tmp 131) (.const (.int .i64 0))⟩,
     ⟨(some 133), none, .mov (.tmp 132)⟩,
     ⟨(some 134), (some (133, false)), .fadr 6 (.tmp 5)⟩,
     ⟨(some 135), (some (133, false)), .load (.tmp 134) none⟩,
     ⟨(some 136), (some (133, false)), .bin .mul (.tmp 135) (.const (.int .i64 10000))⟩,
     ⟨(some 137), (some (133, false)), .fadr 1 (.tmp 5)⟩,
     ⟨(some 138), (some (133, false)), .load (.tmp 137) none⟩,
     ⟨(some 139), (some (133, false)), .fadr 3 (.tmp 4)⟩,
     ⟨(some 140), (some (133, false)), .load (.tmp 139) none⟩,
     ⟨(some 141), (some (133, false)), .bin .mul (.tmp 138) (.tmp 140)⟩,
     ⟨(some 142), (some (133, false)), .bin .leq (.tmp 136) (.tmp 141)⟩,
     ⟨(some 143), none, .pick (.tmp 133) (.const (.bool true)) (.tmp 142)⟩,
     ⟨(some 16), none, .mov (.tmp 129)⟩,
     ⟨(some 17), none, .mov (.tmp 143)⟩] [])
  (.seq (.dreg [
     ⟨(some 144), none, .load (.tmp 13) (some 4)⟩,
     ⟨(some 145), none, .mov (.tmp 14)⟩,
     ⟨(some 146), none, .mov (.tmp 15)⟩,
     ⟨(some 147), none, .mov (.tmp 16)⟩,
     ⟨(some 148), none, .mov (.tmp 17)⟩,
     ⟨(some 149), none, .build [(.bool false), (.bool false), (.bool false), (.bool false)] [(0, 1, (.tmp 145)), (1, 1, (.tmp 146)), (2, 1, (.tmp 147)), (3, 1, (.tmp 148))]⟩,
     ⟨(some 150), none, .eqv false (.cells [true, true, true, true]) (.tmp 144) (.tmp 149)⟩,
     ⟨(some 151), none, .mov (.tmp 150)⟩,
     ⟨(some 152), (some (151, true)), .load (.tmp 13) (some 4)⟩,
     ⟨(some 153), (some (151, true)), .call 16 [(.tmp 152)]⟩,
     ⟨(some 154), (some (151, true)), .mov (.tmp 14)⟩,
     ⟨(some 155), (some (151, true)), .mov (.tmp 154)⟩,
     ⟨(some 156), (some (155, true)), .mov (.tmp 15)⟩,
     ⟨(some 157), (some (151, true)), .pick (.tmp 155) (.tmp 156) (.const (.bool false))⟩,
     ⟨(some 158), (some (151, true)), .mov (.tmp 157)⟩,
     ⟨(some 159), (some (158, true)), .mov (.tmp 16)⟩,
     ⟨(some 160), (some (151, true)), .pick (.tmp 158) (.tmp 159) (.const (.bool false))⟩,
     ⟨(some 161), (some (151, true)), .mov (.tmp 160)⟩,
     ⟨(some 162), (some (161, true)), .mov (.tmp 17)⟩,
     ⟨(some 163), (some (151, true)), .pick (.tmp 161) (.tmp 162) (.const (.bool false))⟩,
     ⟨(some 164), (some (151, true)), .eqv false .bool (.tmp 153) (.tmp 163)⟩,
     ⟨(some 165), none, .pick (.tmp 151) (.tmp 164) (.const (.bool false))⟩,
     ⟨(some 166), none, .mov (.tmp 165)⟩,
     ⟨(some 167), (some (166, true)), .load (.tmp 13) (some 4)⟩,
     ⟨(some 168), (some (166, true)), .call 17 [(.tmp 167)]⟩,
     ⟨(some 169), (some (166, true)), .mov (.tmp 14)⟩,
     ⟨(some 170), (some (166, true)), .mov (.tmp 169)⟩,
     ⟨(some 171), (some (170, true)), .mov (.tmp 16)⟩,
     ⟨(some 172), (some (166, true)), .pick (.tmp 170) (.tmp 171) (.const (.bool false))⟩,
     ⟨(some 173), (some (166, true)), .mov (.tmp 172)⟩,
     ⟨(some 174), (some (173, true)), .mov (.tmp 17)⟩,
     ⟨(some 175), (some (166, true)), .pick (.tmp 173) (.tmp 174) (.const (.bool false))⟩,
     ⟨(some 176), (some (166, true)), .un .not (.tmp 175)⟩,
     ⟨(some 177), (some (166, true)), .eqv false .bool (.tmp 168) (.tmp 176)⟩,
     ⟨(some 178), none, .pick (.tmp 166) (.tmp 177) (.const (.bool false))⟩,
     ⟨(some 179), none, .mov (.tmp 178)⟩,
     ⟨(some 180), (some (179, true)), .load (.tmp 4) (some 5)⟩,
     ⟨(some 181), (some (179, true)), .load (.tmp 5) (some 7)⟩,
     ⟨(some 182), (some (179, true)), .call 18 [(.tmp 180), (.tmp 181)]⟩,
     ⟨(some 183), (some (179, true)), .fadr 4 (.tmp 4)⟩,
     ⟨(some 184), (some (179, true)), .load (.tmp 183) none⟩,
     ⟨(some 185), (some (179, true)), .bin .gtr (.tmp 184) (.const (.int .i64 0))⟩,
     ⟨(some 186), (some (179, true)), .mov (.tmp 185)⟩,
     ⟨(some 187), (some (186, true)), .fadr 0 (.tmp 5)⟩,
     ⟨(some 188), (some (186, true)), .load (.tmp 187) none⟩,
     ⟨(some 189), (some (186, true)), .bin .mul (.tmp 188) (.const (.int .i64 10000))⟩,
     ⟨(some 190), (some (186, true)), .fadr 1 (.tmp 5)⟩,
     ⟨(some 191), (some (186, true)), .load (.tmp 190) none⟩,
     ⟨(some 192), (some (186, true)), .fadr 4 (.tmp 4)⟩,
     ⟨(some 193), (some (186, true)), .load (.tmp 192) none⟩,
     ⟨(some 194), (some (186, true)), .bin .mul (.tmp 191) (.tmp 193)⟩,
     ⟨(some 195), (some (186, true)), .bin .leq (.tmp 189) (.tmp 194)⟩,
     ⟨(some 196), (some (179, true)), .pick (.tmp 186) (.tmp 195) (.const (.bool false))⟩,
     ⟨(some 197), (some (179, true)), .eqv false .bool (.tmp 182) (.tmp 196)⟩,
     ⟨(some 198), none, .pick (.tmp 179) (.tmp 197) (.const (.bool false))⟩,
     ⟨(some 199), none, .mov (.tmp 198)⟩,
     ⟨(some 200), (some (199, true)), .call 3 []⟩,
     ⟨(some 201), none, .pick (.tmp 199) (.tmp 200) (.const (.bool false))⟩,
     ⟨(some 8), none, .mov (.tmp 201)⟩] [])
  (.ret))))
def hn4b (t0 t1 t2 t3 t4 : Int) (v0 v1 v2 v3 v4 v5 v6 : Int) : Hj := (.join 8 (.con (.con (.con (.con (.con (.con (.con (.con .nil)))))))) (.con (.con (.con (.con (.con (.con (.con (.con .nil)))))))) (.join 8 (.con (.con (.con (.con (.con (.con (.con (.con .nil)))))))) (.con (.con (.con (.con (.con (.con (.con (.con .nil)))))))) (.join 10 (.con (.con (.con (.con (.con (.con (.con (.con (.con (.con .nil)))))))))) (.con (.con (.con (.con (.con (.con (.con (.con (.con (.con .nil)))))))))) (.join 10 (.con (.con (.con (.con (.con (.con (.con (.con (.con (.con .nil)))))))))) (.con (.con (.con (.con (.con (.con (.con (.con (.con (.con .nil)))))))))) (.join 14 (.con (.con (.con (.con (.join 2 (.con (.con (.con .nil))) (.con (.con (.con .nil))) (.con (.join 2 (.con (.con (.con .nil))) (.con (.con (.con .nil))) (.con (.join 2 (.con (.con (.con .nil))) (.con (.con (.con .nil))) (.con (.con .nil))))))))))) (.con (.con (.con (.con (.con (.con (.con (.con (.con (.con (.con (.con (.con (.con .nil)))))))))))))) (.join 12 (.con (.con (.con (.con (.join 2 (.con (.con (.con .nil))) (.con (.con (.con .nil))) (.con (.join 2 (.con (.con (.con .nil))) (.con (.con (.con .nil))) (.con (.con (.con .nil)))))))))) (.con (.con (.con (.con (.con (.con (.con (.con (.con (.con (.con (.con .nil)))))))))))) (.join 19 (.con (.con (.con (.con (.con (.con (.con (.join 10 (.con (.con (.con (.con (.con (.con (.con (.con (.con (.con (.con .nil))))))))))) (.con (.con (.con (.con (.con (.con (.con (.con (.con (.con (.con .nil))))))))))) (.con (.con .nil)))))))))) (.con (.con (.con (.con (.con (.con (.con (.con (.con (.con (.con (.con (.con (.con (.con (.con (.con (.con (.con .nil))))))))))))))))))) (.join 2 (.con (.con .nil)) (.con (.con .nil)) .nil))))))))
theorem tree4b (t0 t1 t2 t3 t4 : Int) (v0 v1 v2 v3 v4 v5 v6 : Int) : pieceT tblR noEnv 200 (resLv [.tmp 8]) il4b (hn4b t0 t1 t2 t3 t4 v0 v1 v2 v3 v4 v5 v6) (fr 202 [(4, (.pointer (some ⟨0, 0, none⟩))), (5, (.pointer (some ⟨1, 0, none⟩))), (8, (.bool false))]) [some ⟨.fix, [(.int .i64 t0), (.int .i64 t1), (.int .i64 t2), (.int .i64 t3), (.int .i64 t4)]⟩, some ⟨.fix, [(.int .i64 v0), (.int .i64 v1), (.int .i64 v2), (.int .i64 v3), (.int .i64 v4), (.int .i64 v5), (.int .i64 v6)]⟩, some ⟨.fix, [(.pointer (some ⟨0, 0, none⟩)), (.pointer (some ⟨0, 1, none⟩)), (.pointer (some ⟨0, 2, none⟩)), (.pointer (some ⟨0, 3, none⟩)), (.pointer (some ⟨0, 4, none⟩))]⟩, some ⟨.fix, [(.pointer (some ⟨1, 0, none⟩)), (.pointer (some ⟨1, 1, none⟩)), (.pointer (some ⟨1, 2, none⟩)), (.pointer (some ⟨1, 3, none⟩)), (.pointer (some ⟨1, 4, none⟩)), (.pointer (some ⟨1, 5, none⟩)), (.pointer (some ⟨1, 6, none⟩))]⟩] =
(.req true (.req true (.req (bif (t0 == 0) then true else ((preRef v0 v2 t0) && true)) (.req (bif (t1 == 0) then true else ((preRef v3 v4 t1) && true)) (.req true (.req (bif (t2 == 0) then true else true) (.req (bif (t3 == 0) then true else true) (.req true (.req (bif (((ocB t0 v0 v2) == (bif (t0 == 0) then true else (refB v0 v2 t0))) && (((ocB t1 v3 v4) == (bif (t1 == 0) then true else (refB v3 v4 t1))) && (((moB t2 v5 v0) == (bif (t2 == 0) then true else (decide ((IntKind.wrap .i64 (v5 * 10000)) ≤ (IntKind.wrap .i64 (v0 * t2)))))) && (((moB t3 v6 v1) == (bif (t3 == 0) then true else (decide ((IntKind.wrap .i64 (v6 * 10000)) ≤ (IntKind.wrap .i64 (v1 * t3)))))) && true)))) then ((bif (bif (t0 == 0) then true else (refB v0 v2 t0)) then true else true) && ((bif (bif (bif (t0 == 0) then true else (refB v0 v2 t0)) then (bif (t1 == 0) then true else (refB v3 v4 t1)) else false) then true else true) && ((bif (bif (bif (bif (t0 == 0) then true else (refB v0 v2 t0)) then (bif (t1 == 0) then true else (refB v3 v4 t1)) else false) then (bif (t2 == 0) then true else (decide ((IntKind.wrap .i64 (v5 * 10000)) ≤ (IntKind.wrap .i64 (v0 * t2))))) else false) then true else true) && true))) else true) (.req (bif (bif (((ocB t0 v0 v2) == (bif (t0 == 0) then true else (refB v0 v2 t0))) && (((ocB t1 v3 v4) == (bif (t1 == 0) then true else (refB v3 v4 t1))) && (((moB t2 v5 v0) == (bif (t2 == 0) then true else (decide ((IntKind.wrap .i64 (v5 * 10000)) ≤ (IntKind.wrap .i64 (v0 * t2)))))) && (((moB t3 v6 v1) == (bif (t3 == 0) then true else (decide ((IntKind.wrap .i64 (v6 * 10000)) ≤ (IntKind.wrap .i64 (v1 * t3)))))) && true)))) then ((allB (ocB t0 v0 v2) (ocB t1 v3 v4) (moB t2 v5 v0) (moB t3 v6 v1)) == (bif (bif (bif (bif (t0 == 0) then true else (refB v0 v2 t0)) then (bif (t1 == 0) then true else (refB v3 v4 t1)) else false) then (bif (t2 == 0) then true else (decide ((IntKind.wrap .i64 (v5 * 10000)) ≤ (IntKind.wrap .i64 (v0 * t2))))) else false) then (bif (t3 == 0) then true else (decide ((IntKind.wrap .i64 (v6 * 10000)) ≤ (IntKind.wrap .i64 (v1 * t3))))) else false)) else false) then ((bif (bif (t0 == 0) then true else (refB v0 v2 t0)) then true else true) && ((bif (bif (bif (t0 == 0) then true else (refB v0 v2 t0)) then (bif (t2 == 0) then true else (decide ((IntKind.wrap .i64 (v5 * 10000)) ≤ (IntKind.wrap .i64 (v0 * t2))))) else false) then true else true) && true)) else true) (.req (bif (bif (bif (((ocB t0 v0 v2) == (bif (t0 == 0) then true else (refB v0 v2 t0))) && (((ocB t1 v3 v4) == (bif (t1 == 0) then true else (refB v3 v4 t1))) && (((moB t2 v5 v0) == (bif (t2 == 0) then true else (decide ((IntKind.wrap .i64 (v5 * 10000)) ≤ (IntKind.wrap .i64 (v0 * t2)))))) && (((moB t3 v6 v1) == (bif (t3 == 0) then true else (decide ((IntKind.wrap .i64 (v6 * 10000)) ≤ (IntKind.wrap .i64 (v1 * t3)))))) && true)))) then ((allB (ocB t0 v0 v2) (ocB t1 v3 v4) (moB t2 v5 v0) (moB t3 v6 v1)) == (bif (bif (bif (bif (t0 == 0) then true else (refB v0 v2 t0)) then (bif (t1 == 0) then true else (refB v3 v4 t1)) else false) then (bif (t2 == 0) then true else (decide ((IntKind.wrap .i64 (v5 * 10000)) ≤ (IntKind.wrap .i64 (v0 * t2))))) else false) then (bif (t3 == 0) then true else (decide ((IntKind.wrap .i64 (v6 * 10000)) ≤ (IntKind.wrap .i64 (v1 * t3))))) else false)) else false) then ((failsB (ocB t0 v0 v2) (moB t2 v5 v0) (moB t3 v6 v1)) == (!(bif (bif (bif (t0 == 0) then true else (refB v0 v2 t0)) then (bif (t2 == 0) then true else (decide ((IntKind.wrap .i64 (v5 * 10000)) ≤ (IntKind.wrap .i64 (v0 * t2))))) else false) then (bif (t3 == 0) then true else (decide ((IntKind.wrap .i64 (v6 * 10000)) ≤ (IntKind.wrap .i64 (v1 * t3))))) else false))) else false) then ((bif (decide (t4 > 0)) then true else true) && true) else true) (.req (bif (bif (bif (bif (((ocB t0 v0 v2) == (bif (t0 == 0) then true else (refB v0 v2 t0))) && (((ocB t1 v3 v4) == (bif (t1 == 0) then true else (refB v3 v4 t1))) && (((moB t2 v5 v0) == (bif (t2 == 0) then true else (decide ((IntKind.wrap .i64 (v5 * 10000)) ≤ (IntKind.wrap .i64 (v0 * t2)))))) && (((moB t3 v6 v1) == (bif (t3 == 0) then true else (decide ((IntKind.wrap .i64 (v6 * 10000)) ≤ (IntKind.wrap .i64 (v1 * t3)))))) && true)))) then ((allB (ocB t0 v0 v2) (ocB t1 v3 v4) (moB t2 v5 v0) (moB t3 v6 v1)) == (bif (bif (bif (bif (t0 == 0) then true else (refB v0 v2 t0)) then (bif (t1 == 0) then true else (refB v3 v4 t1)) else false) then (bif (t2 == 0) then true else (decide ((IntKind.wrap .i64 (v5 * 10000)) ≤ (IntKind.wrap .i64 (v0 * t2))))) else false) then (bif (t3 == 0) then true else (decide ((IntKind.wrap .i64 (v6 * 10000)) ≤ (IntKind.wrap .i64 (v1 * t3))))) else false)) else false) then ((failsB (ocB t0 v0 v2) (moB t2 v5 v0) (moB t3 v6 v1)) == (!(bif (bif (bif (t0 == 0) then true else (refB v0 v2 t0)) then (bif (t2 == 0) then true else (decide ((IntKind.wrap .i64 (v5 * 10000)) ≤ (IntKind.wrap .i64 (v0 * t2))))) else false) then (bif (t3 == 0) then true else (decide ((IntKind.wrap .i64 (v6 * 10000)) ≤ (IntKind.wrap .i64 (v1 * t3))))) else false))) else false) then ((cleanB t4 v0 v1) == (bif (decide (t4 > 0)) then (decide ((IntKind.wrap .i64 (v0 * 10000)) ≤ (IntKind.wrap .i64 (v1 * t4)))) else false)) else false) then true else true) (.ret (pk .ret (fr 202 [(8, (.bool (bif (bif (bif (bif (((ocB t0 v0 v2) == (bif (t0 == 0) then true else (refB v0 v2 t0))) && (((ocB t1 v3 v4) == (bif (t1 == 0) then true else (refB v3 v4 t1))) && (((moB t2 v5 v0) == (bif (t2 == 0) then true else (decide ((IntKind.wrap .i64 (v5 * 10000)) ≤ (IntKind.wrap .i64 (v0 * t2)))))) && (((moB t3 v6 v1) == (bif (t3 == 0) then true else (decide ((IntKind.wrap .i64 (v6 * 10000)) ≤ (IntKind.wrap .i64 (v1 * t3)))))) && true)))) then ((allB (ocB t0 v0 v2) (ocB t1 v3 v4) (moB t2 v5 v0) (moB t3 v6 v1)) == (bif (bif (bif (bif (t0 == 0) then true else (refB v0 v2 t0)) then (bif (t1 == 0) then true else (refB v3 v4 t1)) else false) then (bif (t2 == 0) then true else (decide ((IntKind.wrap .i64 (v5 * 10000)) ≤ (IntKind.wrap .i64 (v0 * t2))))) else false) then (bif (t3 == 0) then true else (decide ((IntKind.wrap .i64 (v6 * 10000)) ≤ (IntKind.wrap .i64 (v1 * t3))))) else false)) else false) then ((failsB (ocB t0 v0 v2) (moB t2 v5 v0) (moB t3 v6 v1)) == (!(bif (bif (bif (t0 == 0) then true else (refB v0 v2 t0)) then (bif (t2 == 0) then true else (decide ((IntKind.wrap .i64 (v5 * 10000)) ≤ (IntKind.wrap .i64 (v0 * t2))))) else false) then (bif (t3 == 0) then true else (decide ((IntKind.wrap .i64 (v6 * 10000)) ≤ (IntKind.wrap .i64 (v1 * t3))))) else false))) else false) then ((cleanB t4 v0 v1) == (bif (decide (t4 > 0)) then (decide ((IntKind.wrap .i64 (v0 * 10000)) ≤ (IntKind.wrap .i64 (v1 * t4)))) else false)) else false) then true else false)))])) [some ⟨.fix, [(.int .i64 t0), (.int .i64 t1), (.int .i64 t2), (.int .i64 t3), (.int .i64 t4)]⟩, some ⟨.fix, [(.int .i64 v0), (.int .i64 v1), (.int .i64 v2), (.int .i64 v3), (.int .i64 v4), (.int .i64 v5), (.int .i64 v6)]⟩, some ⟨.fix, [(.pointer (some ⟨0, 0, none⟩)), (.pointer (some ⟨0, 1, none⟩)), (.pointer (some ⟨0, 2, none⟩)), (.pointer (some ⟨0, 3, none⟩)), (.pointer (some ⟨0, 4, none⟩))]⟩, some ⟨.fix, [(.pointer (some ⟨1, 0, none⟩)), (.pointer (some ⟨1, 1, none⟩)), (.pointer (some ⟨1, 2, none⟩)), (.pointer (some ⟨1, 3, none⟩)), (.pointer (some ⟨1, 4, none⟩)), (.pointer (some ⟨1, 5, none⟩)), (.pointer (some ⟨1, 6, none⟩))]⟩, some ⟨.fix, [(.bool (ocB t0 v0 v2)), (.bool (ocB t1 v3 v4)), (.bool (moB t2 v5 v0)), (.bool (moB t3 v6 v1))]⟩]))))))))))))) := by kernel_rfl
def il4a : IL := .seq (.reg [
     ⟨(some 4), none, .box (.tmp 0)⟩,
     ⟨(some 5), none, .box (.tmp 1)⟩,
     ⟨(some 8), none, .mov (.const (.bool false))⟩])
  (.seq (.seq (.reg [
      ⟨(some 18), none, .fadr 0 (.tmp 4)⟩,
      ⟨(some 19), none, .fadr 1 (.tmp 4)⟩,
      ⟨(some 20), none, .fadr 2 (.tmp 4)⟩,
      ⟨(some 21), none, .fadr 3 (.tmp 4)⟩,
      ⟨(some 22), none, .fadr 4 (.tmp 4)⟩,
      ⟨(some 23), none, .mkrow [(.pointer none), (.pointer none), (.pointer none), (.pointer none), (.pointer none)] 5 [(0, 1, (.tmp 18)), (1, 1, (.tmp 19)), (2, 1, (.tmp 20)), (3, 1, (.tmp 21)), (4, 1, (.tmp 22))]⟩,
      ⟨(some 24), none, .len (.tmp 23)⟩,
      ⟨(some 25), none, .mov (.const (.int .i64 0))⟩])
   (.block 0
     (.loop
       (.seq (.reg [
          ⟨(some 26), none, .bin .lss (.tmp 25) (.tmp 24)⟩])
       (.seq (.ite (.tmp 26)
          (.skip)
          (.exit 0))
       (.seq (.block 1
          (.seq (.reg [
             ⟨(some 27), none, .iadr 1 none (.tmp 23) (.tmp 25)⟩,
             ⟨(some 28), none, .load (.tmp 27) none⟩,
             ⟨(some 10), none, .mov (.tmp 28)⟩])
          (.reg [
            ⟨(some 29), none, .mov (.tmp 10)⟩,
            ⟨(some 30), none, .mov (.tmp 10)⟩,
            ⟨(some 31), none, .nilck (.tmp 30)⟩,
            ⟨(some 32), none, .load (.tmp 31) none⟩,
            ⟨(some 33), none, .call 19 [(.tmp 32), (.const (.int .i64 0)), (.const (.int .i64 100000))]⟩,
            ⟨(some 34), none, .nilck (.tmp 29)⟩,
            ⟨none, none, .store (.tmp 34) (.tmp 33) 1⟩])))
       (.reg [
         ⟨(some 35), none, .bin .add (.tmp 25) (.const (.int .i64 1))⟩,
         ⟨(some 25), none, .mov (.tmp 35)⟩])))))))
  (.seq (.seq (.reg [
      ⟨(some 36), none, .fadr 0 (.tmp 5)⟩,
      ⟨(some 37), none, .fadr 1 (.tmp 5)⟩,
      ⟨(some 38), none, .fadr 2 (.tmp 5)⟩,
      ⟨(some 39), none, .fadr 3 (.tmp 5)⟩,
      ⟨(some 40), none, .fadr 4 (.tmp 5)⟩,
      ⟨(some 41), none, .fadr 5 (.tmp 5)⟩,
      ⟨(some 42), none, .fadr 6 (.tmp 5)⟩,
      ⟨(some 43), none, .mkrow [(.pointer none), (.pointer none), (.pointer none), (.pointer none), (.pointer none), (.pointer none), (.pointer none)] 7 [(0, 1, (.tmp 36)), (1, 1, (.tmp 37)), (2, 1, (.tmp 38)), (3, 1, (.tmp 39)), (4, 1, (.tmp 40)), (5, 1, (.tmp 41)), (6, 1, (.tmp 42))]⟩,
      ⟨(some 44), none, .len (.tmp 43)⟩,
      ⟨(some 45), none, .mov (.const (.int .i64 0))⟩])
   (.block 2
     (.loop
       (.seq (.reg [
          ⟨(some 46), none, .bin .lss (.tmp 45) (.tmp 44)⟩])
       (.seq (.ite (.tmp 46)
          (.skip)
          (.exit 2))
       (.seq (.block 3
          (.seq (.reg [
             ⟨(some 47), none, .iadr 1 none (.tmp 43) (.tmp 45)⟩,
             ⟨(some 48), none, .load (.tmp 47) none⟩,
             ⟨(some 12), none, .mov (.tmp 48)⟩])
          (.reg [
            ⟨(some 49), none, .mov (.tmp 12)⟩,
            ⟨(some 50), none, .mov (.tmp 12)⟩,
            ⟨(some 51), none, .nilck (.tmp 50)⟩,
            ⟨(some 52), none, .load (.tmp 51) none⟩,
            ⟨(some 53), none, .call 20 [(.tmp 52)]⟩,
            ⟨(some 54), none, .nilck (.tmp 49)⟩,
            ⟨none, none, .store (.tmp 54) (.tmp 53) 1⟩])))
       (.reg [
         ⟨(some 55), none, .bin .add (.tmp 45) (.const (.int .i64 1))⟩,
         ⟨(some 45), none, .mov (.tmp 55)⟩])))))))
  (.seq (.seq (.reg [
      ⟨(some 56), none, .mov (.tmp 2)⟩,
      ⟨(some 57), none, .bin .and (.tmp 56) (.const (.int .i64 1))⟩,
      ⟨(some 58), none, .bin .eql (.tmp 57) (.const (.int .i64 0))⟩])
   (.ite (.tmp 58)
     (.seq (.reg [
        ⟨(some 59), none, .fadr 2 (.tmp 5)⟩,
        ⟨none, none, .store (.tmp 59) (.const (.int .i64 10000)) 1⟩])
     (.seq (.dreg [
        ⟨(some 60), none, .fadr 0 (.tmp 4)⟩,
        ⟨(some 61), none, .load (.tmp 60) none⟩,
        ⟨(some 62), none, .mov (.tmp 2)⟩,
        ⟨(some 63), none, .bin .quo (.tmp 62) (.const (.int .i64 2))⟩,
        ⟨(some 64), none, .call 19 [(.tmp 63), (.const (.int .i64 0)), (.const (.int .i64 4))]⟩,
        ⟨(some 65), none, .bin .add (.tmp 61) (.tmp 64)⟩,
        ⟨(some 66), none, .bin .sub (.tmp 65) (.const (.int .i64 2))⟩,
        ⟨(some 67), none, .fadr 0 (.tmp 5)⟩,
        ⟨none, none, .store (.tmp 67) (.tmp 66) 1⟩] [])
     (.reg [
       ⟨(some 68), none, .fadr 0 (.tmp 5)⟩,
       ⟨(some 69), none, .load (.tmp 68) none⟩,
       ⟨(some 70), none, .mx (.tmp 69) (.const (.int .i64 0))⟩,
       ⟨(some 71), none, .fadr 0 (.tmp 5)⟩,
       ⟨none, none, .store (.tmp 71) (.tmp 70) 1⟩])))
     (.skip)))
  (.seq (.reg [
     ⟨(some 72), none, .mov (.tmp 3)⟩,
     ⟨(some 73), none, .call 19 [(.tmp 72), (.const (.int .i64 0)), (.const (.int .i64 9))]⟩])
  (.block 4
    (.seq (.reg [
       ⟨(some 75), none, .bin .eql (.tmp 73) (.const (.int .i64 0))⟩,
       ⟨(some 74), none, .mov (.tmp 75)⟩])
    (.ite (.tmp 74)
      (.reg [
        ⟨(some 76), none, .fadr 0 (.tmp 4)⟩,
        ⟨none, none, .store (.tmp 76) (.const (.int .i64 0)) 1⟩])
      (.seq (.reg [
         ⟨(some 78), none, .bin .eql (.tmp 73) (.const (.int .i64 1))⟩,
         ⟨(some 77), none, .mov (.tmp 78)⟩])
      (.ite (.tmp 77)
        (.reg [
          ⟨(some 79), none, .fadr 1 (.tmp 4)⟩,
          ⟨none, none, .store (.tmp 79) (.const (.int .i64 0)) 1⟩])
        (.seq (.reg [
           ⟨(some 81), none, .bin .eql (.tmp 73) (.const (.int .i64 2))⟩,
           ⟨(some 80), none, .mov (.tmp 81)⟩])
        (.ite (.tmp 80)
          (.reg [
            ⟨(some 82), none, .fadr 2 (.tmp 4)⟩,
            ⟨none, none, .store (.tmp 82) (.const (.int .i64 0)) 1⟩])
          (.seq (.reg [
             ⟨(some 84), none, .bin .eql (.tmp 73) (.const (.int .i64 3))⟩,
             ⟨(some 83), none, .mov (.tmp 84)⟩])
          (.ite (.tmp 83)
            (.reg [
              ⟨(some 85), none, .fadr 3 (.tmp 4)⟩,
              ⟨none, none, .store (.tmp 85) (.const (.int .i64 0)) 1⟩])
            (.seq (.reg [
               ⟨(some 87), none, .bin .eql (.tmp 73) (.const (.int .i64 4))⟩,
               ⟨(some 86), none, .mov (.tmp 87)⟩])
            (.ite (.tmp 86)
              (.reg [
                ⟨(some 88), none, .fadr 4 (.tmp 4)⟩,
                ⟨none, none, .store (.tmp 88) (.const (.int .i64 0)) 1⟩])
              (.skip))))))))))))))))
def hn4a (t0 t1 t2 t3 t4 : Int) (v0 v1 v2 v3 v4 v5 v6 : Int) (x0 x1 : Int) : Hj := (.con (.con (.con (.con (.con (.con (.con (.con (.con (.con (.con (.con (.con (.con (.use 57 (.int .i64 (x0 % 2)) [some ⟨.fix, [(.int .i64 (wn t0 0 100000)), (.int .i64 (wn t1 0 100000)), (.int .i64 (wn t2 0 100000)), (.int .i64 (wn t3 0 100000)), (.int .i64 (wn t4 0 100000))]⟩, some ⟨.fix, [(.int .i64 (wn v0 0 1099511627776)), (.int .i64 (wn v1 0 1099511627776)), (.int .i64 (wn v2 0 1099511627776)), (.int .i64 (wn v3 0 1099511627776)), (.int .i64 (wn v4 0 1099511627776)), (.int .i64 (wn v5 0 1099511627776)), (.int .i64 (wn v6 0 1099511627776))]⟩, some ⟨.fix, [(.pointer (some ⟨0, 0, none⟩)), (.pointer (some ⟨0, 1, none⟩)), (.pointer (some ⟨0, 2, none⟩)), (.pointer (some ⟨0, 3, none⟩)), (.pointer (some ⟨0, 4, none⟩))]⟩, some ⟨.fix, [(.pointer (some ⟨1, 0, none⟩)), (.pointer (some ⟨1, 1, none⟩)), (.pointer (some ⟨1, 2, none⟩)), (.pointer (some ⟨1, 3, none⟩)), (.pointer (some ⟨1, 4, none⟩)), (.pointer (some ⟨1, 5, none⟩)), (.pointer (some ⟨1, 6, none⟩))]⟩] (.sym (.sym .nil (.sym .nil (.sym .nil (.sym .nil (.sym .nil .nil))))) (.sym .nil (.sym .nil (.sym .nil (.sym .nil (.sym .nil .nil)))))))))))))))))))))
theorem tree4a (t0 t1 t2 t3 t4 : Int) (v0 v1 v2 v3 v4 v5 v6 : Int) (x0 x1 : Int) : pieceT tblR noEnv 200 (fun i => exL i il4b || resLv [.tmp 8] i) il4a (hn4a t0 t1 t2 t3 t4 v0 v1 v2 v3 v4 v5 v6 x0 x1) (fr 202 [(0, (.agg ⟨[(.int .i64 t0), (.int .i64 t1), (.int .i64 t2), (.int .i64 t3), (.int .i64 t4)]⟩)), (1, (.agg ⟨[(.int .i64 v0), (.int .i64 v1), (.int .i64 v2), (.int .i64 v3), (.int .i64 v4), (.int .i64 v5), (.int .i64 v6)]⟩)), (2, (.int .i64 x0)), (3, (.int .i64 x1))]) [] =
(.req (preWithin 0 100000) (.req (preWithin 0 100000) (.req (preWithin 0 100000) (.req (preWithin 0 100000) (.req (preWithin 0 100000) (.req (preWithin 0 1099511627776) (.req (preWithin 0 1099511627776) (.req (preWithin 0 1099511627776) (.req (preWithin 0 1099511627776) (.req (preWithin 0 1099511627776) (.req (preWithin 0 1099511627776) (.req (preWithin 0 1099511627776) (.claim (opA (Plain.env tblR noEnv) (.bin .and (.const (.int .i64 x0)) (.const (.int .i64 1))) [] [some ⟨.fix, [(.int .i64 (wn t0 0 100000)), (.int .i64 (wn t1 0 100000)), (.int .i64 (wn t2 0 100000)), (.int .i64 (wn t3 0 100000)), (.int .i64 (wn t4 0 100000))]⟩, some ⟨.fix, [(.int .i64 (wn v0 0 1099511627776)), (.int .i64 (wn v1 0 1099511627776)), (.int .i64 (wn v2 0 1099511627776)), (.int .i64 (wn v3 0 1099511627776)), (.int .i64 (wn v4 0 1099511627776)), (.int .i64 (wn v5 0 1099511627776)), (.int .i64 (wn v6 0 1099511627776))]⟩, some ⟨.fix, [(.pointer (some ⟨0, 0, none⟩)), (.pointer (some ⟨0, 1, none⟩)), (.pointer (some ⟨0, 2, none⟩)), (.pointer (some ⟨0, 3, none⟩)), (.pointer (some ⟨0, 4, none⟩))]⟩, some ⟨.fix, [(.pointer (some ⟨1, 0, none⟩)), (.pointer (some ⟨1, 1, none⟩)), (.pointer (some ⟨1, 2, none⟩)), (.pointer (some ⟨1, 3, none⟩)), (.pointer (some ⟨1, 4, none⟩)), (.pointer (some ⟨1, 5, none⟩)), (.pointer (some ⟨1, 6, none⟩))]⟩] = some ((.int .i64 (x0 % 2)), [some ⟨.fix, [(.int .i64 (wn t0 0 100000)), (.int .i64 (wn t1 0 100000)), (.int .i64 (wn t2 0 100000)), (.int .i64 (wn t3 0 100000)), (.int .i64 (wn t4 0 100000))]⟩, some ⟨.fix, [(.int .i64 (wn v0 0 1099511627776)), (.int .i64 (wn v1 0 1099511627776)), (.int .i64 (wn v2 0 1099511627776)), (.int .i64 (wn v3 0 1099511627776)), (.int .i64 (wn v4 0 1099511627776)), (.int .i64 (wn v5 0 1099511627776)), (.int .i64 (wn v6 0 1099511627776))]⟩, some ⟨.fix, [(.pointer (some ⟨0, 0, none⟩)), (.pointer (some ⟨0, 1, none⟩)), (.pointer (some ⟨0, 2, none⟩)), (.pointer (some ⟨0, 3, none⟩)), (.pointer (some ⟨0, 4, none⟩))]⟩, some ⟨.fix, [(.pointer (some ⟨1, 0, none⟩)), (.pointer (some ⟨1, 1, none⟩)), (.pointer (some ⟨1, 2, none⟩)), (.pointer (some ⟨1, 3, none⟩)), (.pointer (some ⟨1, 4, none⟩)), (.pointer (some ⟨1, 5, none⟩)), (.pointer (some ⟨1, 6, none⟩))]⟩]))
 (.br ((x0 % 2) == 0)
 (.req true (.req true (.req (preWithin 0 4) (.req (preWithin 0 9) (.br ((wn x1 0 9) == 0)
 (.ret (pk .normal (fr 202 [(4, (.pointer (some ⟨0, 0, none⟩))), (5, (.pointer (some ⟨1, 0, none⟩))), (8, (.bool false))])) [some ⟨.fix, [(.int .i64 0), (.int .i64 (wn t1 0 100000)), (.int .i64 (wn t2 0 100000)), (.int .i64 (wn t3 0 100000)), (.int .i64 (wn t4 0 100000))]⟩, some ⟨.fix, [(.int .i64 (if 0 > (IntKind.wrap .i64 ((IntKind.wrap .i64 ((wn t0 0 100000) + (wn (IntKind.wrap .i64 (Int.tdiv x0 2)) 0 4))) - 2)) then 0 else (IntKind.wrap .i64 ((IntKind.wrap .i64 ((wn t0 0 100000) + (wn (IntKind.wrap .i64 (Int.tdiv x0 2)) 0 4))) - 2)))), (.int .i64 (wn v1 0 1099511627776)), (.int .i64 10000), (.int .i64 (wn v3 0 1099511627776)), (.int .i64 (wn v4 0 1099511627776)), (.int .i64 (wn v5 0 1099511627776)), (.int .i64 (wn v6 0 1099511627776))]⟩, some ⟨.fix, [(.pointer (some ⟨0, 0, none⟩)), (.pointer (some ⟨0, 1, none⟩)), (.pointer (some ⟨0, 2, none⟩)), (.pointer (some ⟨0, 3, none⟩)), (.pointer (some ⟨0, 4, none⟩))]⟩, some ⟨.fix, [(.pointer (some ⟨1, 0, none⟩)), (.pointer (some ⟨1, 1, none⟩)), (.pointer (some ⟨1, 2, none⟩)), (.pointer (some ⟨1, 3, none⟩)), (.pointer (some ⟨1, 4, none⟩)), (.pointer (some ⟨1, 5, none⟩)), (.pointer (some ⟨1, 6, none⟩))]⟩])
 (.br ((wn x1 0 9) == 1)
 (.ret (pk .normal (fr 202 [(4, (.pointer (some ⟨0, 0, none⟩))), (5, (.pointer (some ⟨1, 0, none⟩))), (8, (.bool false))])) [some ⟨.fix, [(.int .i64 (wn t0 0 100000)), (.int .i64 0), (.int .i64 (wn t2 0 100000)), (.int .i64 (wn t3 0 100000)), (.int .i64 (wn t4 0 100000))]⟩, some ⟨.fix, [(.int .i64 (if 0 > (IntKind.wrap .i64 ((IntKind.wrap .i64 ((wn t0 0 100000) + (wn (IntKind.wrap .i64 (Int.tdiv x0 2)) 0 4))) - 2)) then 0 else (IntKind.wrap .i64 ((IntKind.wrap .i64 ((wn t0 0 100000) + (wn (IntKind.wrap .i64 (Int.tdiv x0 2)) 0 4))) - 2)))), (.int .i64 (wn v1 0 1099511627776)), (.int .i64 10000), (.int .i64 (wn v3 0 1099511627776)), (.int .i64 (wn v4 0 1099511627776)), (.int .i64 (wn v5 0 1099511627776)), (.int .i64 (wn v6 0 1099511627776))]⟩, some ⟨.fix, [(.pointer (some ⟨0, 0, none⟩)), (.pointer (some ⟨0, 1, none⟩)), (.pointer (some ⟨0, 2, none⟩)), (.pointer (some ⟨0, 3, none⟩)), (.pointer (some ⟨0, 4, none⟩))]⟩, some ⟨.fix, [(.pointer (some ⟨1, 0, none⟩)), (.pointer (some ⟨1, 1, none⟩)), (.pointer (some ⟨1, 2, none⟩)), (.pointer (some ⟨1, 3, none⟩)), (.pointer (some ⟨1, 4, none⟩)), (.pointer (some ⟨1, 5, none⟩)), (.pointer (some ⟨1, 6, none⟩))]⟩])
 (.br ((wn x1 0 9) == 2)
 (.ret (pk .normal (fr 202 [(4, (.pointer (some ⟨0, 0, none⟩))), (5, (.pointer (some ⟨1, 0, none⟩))), (8, (.bool false))])) [some ⟨.fix, [(.int .i64 (wn t0 0 100000)), (.int .i64 (wn t1 0 100000)), (.int .i64 0), (.int .i64 (wn t3 0 100000)), (.int .i64 (wn t4 0 100000))]⟩, some ⟨.fix, [(.int .i64 (if 0 > (IntKind.wrap .i64 ((IntKind.wrap .i64 ((wn t0 0 100000) + (wn (IntKind.wrap .i64 (Int.tdiv x0 2)) 0 4))) - 2)) then 0 else (IntKind.wrap .i64 ((IntKind.wrap .i64 ((wn t0 0 100000) + (wn (IntKind.wrap .i64 (Int.tdiv x0 2)) 0 4))) - 2)))), (.int .i64 (wn v1 0 1099511627776)), (.int .i64 10000), (.int .i64 (wn v3 0 1099511627776)), (.int .i64 (wn v4 0 1099511627776)), (.int .i64 (wn v5 0 1099511627776)), (.int .i64 (wn v6 0 1099511627776))]⟩, some ⟨.fix, [(.pointer (some ⟨0, 0, none⟩)), (.pointer (some ⟨0, 1, none⟩)), (.pointer (some ⟨0, 2, none⟩)), (.pointer (some ⟨0, 3, none⟩)), (.pointer (some ⟨0, 4, none⟩))]⟩, some ⟨.fix, [(.pointer (some ⟨1, 0, none⟩)), (.pointer (some ⟨1, 1, none⟩)), (.pointer (some ⟨1, 2, none⟩)), (.pointer (some ⟨1, 3, none⟩)), (.pointer (some ⟨1, 4, none⟩)), (.pointer (some ⟨1, 5, none⟩)), (.pointer (some ⟨1, 6, none⟩))]⟩])
 (.br ((wn x1 0 9) == 3)
 (.ret (pk .normal (fr 202 [(4, (.pointer (some ⟨0, 0, none⟩))), (5, (.pointer (some ⟨1, 0, none⟩))), (8, (.bool false))])) [some ⟨.fix, [(.int .i64 (wn t0 0 100000)), (.int .i64 (wn t1 0 100000)), (.int .i64 (wn t2 0 100000)), (.int .i64 0), (.int .i64 (wn t4 0 100000))]⟩, some ⟨.fix, [(.int .i64 (if 0 > (IntKind.wrap .i64 ((IntKind.wrap .i64 ((wn t0 0 100000) + (wn (IntKind.wrap .i64 (Int.tdiv x0 2)) 0 4))) - 2)) then 0 else (IntKind.wrap .i64 ((IntKind.wrap .i64 ((wn t0 0 100000) + (wn (IntKind.wrap .i64 (Int.tdiv x0 2)) 0 4))) - 2)))), (.int .i64 (wn v1 0 1099511627776)), (.int .i64 10000), (.int .i64 (wn v3 0 1099511627776)), (.int .i64 (wn v4 0 1099511627776)), (.int .i64 (wn v5 0 1099511627776)), (.int .i64 (wn v6 0 1099511627776))]⟩, some ⟨.fix, [(.pointer (some ⟨0, 0, none⟩)), (.pointer (some ⟨0, 1, none⟩)), (.pointer (some ⟨0, 2, none⟩)), (.pointer (some ⟨0, 3, none⟩)), (.pointer (some ⟨0, 4, none⟩))]⟩, some ⟨.fix, [(.pointer (some ⟨1, 0, none⟩)), (.pointer (some ⟨1, 1, none⟩)), (.pointer (some ⟨1, 2, none⟩)), (.pointer (some ⟨1, 3, none⟩)), (.pointer (some ⟨1, 4, none⟩)), (.pointer (some ⟨1, 5, none⟩)), (.pointer (some ⟨1, 6, none⟩))]⟩])
 (.br ((wn x1 0 9) == 4)
 (.ret (pk .normal (fr 202 [(4, (.pointer (some ⟨0, 0, none⟩))), (5, (.pointer (some ⟨1, 0, none⟩))), (8, (.bool false))])) [some ⟨.fix, [(.int .i64 (wn t0 0 100000)), (.int .i64 (wn t1 0 100000)), (.int .i64 (wn t2 0 100000)), (.int .i64 (wn t3 0 100000)), (.int .i64 0)]⟩, some ⟨.fix, [(.int .i64 (if 0 > (IntKind.wrap .i64 ((IntKind.wrap .i64 ((wn t0 0 100000) + (wn (IntKind.wrap .i64 (Int.tdiv x0 2)) 0 4))) - 2)) then 0 else (IntKind.wrap .i64 ((IntKind.wrap .i64 ((wn t0 0 100000) + (wn (IntKind.wrap .i64 (Int.tdiv x0 2)) 0 4))) - 2)))), (.int .i64 (wn v1 0 1099511627776)), (.int .i64 10000), (.int .i64 (wn v3 0 1099511627776)), (.int .i64 (wn v4 0 1099511627776)), (.int .i64 (wn v5 0 1099511627776)), (.int .i64 (wn v6 0 1099511627776))]⟩, some ⟨.fix, [(.pointer (some ⟨0, 0, none⟩)), (.pointer (some ⟨0, 1, none⟩)), (.pointer (some ⟨0, 2, none⟩)), (.pointer (some ⟨0, 3, none⟩)), (.pointer (some ⟨0, 4, none⟩))]⟩, some ⟨.fix, [(.pointer (some ⟨1, 0, none⟩)), (.pointer (some ⟨1, 1, none⟩)), (.pointer (some ⟨1, 2, none⟩)), (.pointer (some ⟨1, 3, none⟩)), (.pointer (some ⟨1, 4, none⟩)), (.pointer (some ⟨1, 5, none⟩)), (.pointer (some ⟨1, 6, none⟩))]⟩])
 (.ret (pk .normal (fr 202 [(4, (.pointer (some ⟨0, 0, none⟩))), (5, (.pointer (some ⟨1, 0, none⟩))), (8, (.bool false))])) [some ⟨.fix, [(.int .i64 (wn t0 0 100000)), (.int .i64 (wn t1 0 100000)), (.int .i64 (wn t2 0 100000)), (.int .i64 (wn t3 0 100000)), (.int .i64 (wn t4 0 100000))]⟩, some ⟨.fix, [(.int .i64 (if 0 > (IntKind.wrap .i64 ((IntKind.wrap .i64 ((wn t0 0 100000) + (wn (IntKind.wrap .i64 (Int.tdiv x0 2)) 0 4))) - 2)) then 0 else (IntKind.wrap .i64 ((IntKind.wrap .i64 ((wn t0 0 100000) + (wn (IntKind.wrap .i64 (Int.tdiv x0 2)) 0 4))) - 2)))), (.int .i64 (wn v1 0 1099511627776)), (.int .i64 10000), (.int .i64 (wn v3 0 1099511627776)), (.int .i64 (wn v4 0 1099511627776)), (.int .i64 (wn v5 0 1099511627776)), (.int .i64 (wn v6 0 1099511627776))]⟩, some ⟨.fix, [(.pointer (some ⟨0, 0, none⟩)), (.pointer (some ⟨0, 1, none⟩)), (.pointer (some ⟨0, 2, none⟩)), (.pointer (some ⟨0, 3, none⟩)), (.pointer (some ⟨0, 4, none⟩))]⟩, some ⟨.fix, [(.pointer (some ⟨1, 0, none⟩)), (.pointer (some ⟨1, 1, none⟩)), (.pointer (some ⟨1, 2, none⟩)), (.pointer (some ⟨1, 3, none⟩)), (.pointer (some ⟨1, 4, none⟩)), (.pointer (some ⟨1, 5, none⟩)), (.pointer (some ⟨1, 6, none⟩))]⟩]))))))))))
 (.req (preWithin 0 9) (.br ((wn x1 0 9) == 0)
 (.ret (pk .normal (fr 202 [(4, (.pointer (some ⟨0, 0, none⟩))), (5, (.pointer (some ⟨1, 0, none⟩))), (8, (.bool false))])) [some ⟨.fix, [(.int .i64 0), (.int .i64 (wn t1 0 100000)), (.int .i64 (wn t2 0 100000)), (.int .i64 (wn t3 0 100000)), (.int .i64 (wn t4 0 100000))]⟩, some ⟨.fix, [(.int .i64 (wn v0 0 1099511627776)), (.int .i64 (wn v1 0 1099511627776)), (.int .i64 (wn v2 0 1099511627776)), (.int .i64 (wn v3 0 1099511627776)), (.int .i64 (wn v4 0 1099511627776)), (.int .i64 (wn v5 0 1099511627776)), (.int .i64 (wn v6 0 1099511627776))]⟩, some ⟨.fix, [(.pointer (some ⟨0, 0, none⟩)), (.pointer (some ⟨0, 1, none⟩)), (.pointer (some ⟨0, 2, none⟩)), (.pointer (some ⟨0, 3, none⟩)), (.pointer (some ⟨0, 4, none⟩))]⟩, some ⟨.fix, [(.pointer (some ⟨1, 0, none⟩)), (.pointer (some ⟨1, 1, none⟩)), (.pointer (some ⟨1, 2, none⟩)), (.pointer (some ⟨1, 3, none⟩)), (.pointer (some ⟨1, 4, none⟩)), (.pointer (some ⟨1, 5, none⟩)), (.pointer (some ⟨1, 6, none⟩))]⟩])
 (.br ((wn x1 0 9) == 1)
 (.ret (pk .normal (fr 202 [(4, (.pointer (some ⟨0, 0, none⟩))), (5, (.pointer (some ⟨1, 0, none⟩))), (8, (.bool false))])) [some ⟨.fix, [(.int .i64 (wn t0 0 100000)), (.int .i64 0), (.int .i64 (wn t2 0 100000)), (.int .i64 (wn t3 0 100000)), (.int .i64 (wn t4 0 100000))]⟩, some ⟨.fix, [(.int .i64 (wn v0 0 1099511627776)), (.int .i64 (wn v1 0 1099511627776)), (.int .i64 (wn v2 0 1099511627776)), (.int .i64 (wn v3 0 1099511627776)), (.int .i64 (wn v4 0 1099511627776)), (.int .i64 (wn v5 0 1099511627776)), (.int .i64 (wn v6 0 1099511627776))]⟩, some ⟨.fix, [(.pointer (some ⟨0, 0, none⟩)), (.pointer (some ⟨0, 1, none⟩)), (.pointer (some ⟨0, 2, none⟩)), (.pointer (some ⟨0, 3, none⟩)), (.pointer (some ⟨0, 4, none⟩))]⟩, some ⟨.fix, [(.pointer (some ⟨1, 0, none⟩)), (.pointer (some ⟨1, 1, none⟩)), (.pointer (some ⟨1, 2, none⟩)), (.pointer (some ⟨1, 3, none⟩)), (.pointer (some ⟨1, 4, none⟩)), (.pointer (some ⟨1, 5, none⟩)), (.pointer (some ⟨1, 6, none⟩))]⟩])
 (.br ((wn x1 0 9) == 2)
 (.ret (pk .normal (fr 202 [(4, (.pointer (some ⟨0, 0, none⟩))), (5, (.pointer (some ⟨1, 0, none⟩))), (8, (.bool false))])) [some ⟨.fix, [(.int .i64 (wn t0 0 100000)), (.int .i64 (wn t1 0 100000)), (.int .i64 0), (.int .i64 (wn t3 0 100000)), (.int .i64 (wn t4 0 100000))]⟩, some ⟨.fix, [(.int .i64 (wn v0 0 1099511627776)), (.int .i64 (wn v1 0 1099511627776)), (.int .i64 (wn v2 0 1099511627776)), (.int .i64 (wn v3 0 1099511627776)), (.int .i64 (wn v4 0 1099511627776)), (.int .i64 (wn v5 0 1099511627776)), (.int .i64 (wn v6 0 1099511627776))]⟩, some ⟨.fix, [(.pointer (some ⟨0, 0, none⟩)), (.pointer (some ⟨0, 1, none⟩)), (.pointer (some ⟨0, 2, none⟩)), (.pointer (some ⟨0, 3, none⟩)), (.pointer (some ⟨0, 4, none⟩))]⟩, some ⟨.fix, [(.pointer (some ⟨1, 0, none⟩)), (.pointer (some ⟨1, 1, none⟩)), (.pointer (some ⟨1, 2, none⟩)), (.pointer (some ⟨1, 3, none⟩)), (.pointer (some ⟨1, 4, none⟩)), (.pointer (some ⟨1, 5, none⟩)), (.pointer (some ⟨1, 6, none⟩))]⟩])
 (.br ((wn x1 0 9) == 3)
 (.ret (pk .normal (fr 202 [(4, (.pointer (some ⟨0, 0, none⟩))), (5, (.pointer (some ⟨1, 0, none⟩))), (8, (.bool false))])) [some ⟨.fix, [(.int .i64 (wn t0 0 100000)), (.int .i64 (wn t1 0 100000)), (.int .i64 (wn t2 0 100000)), (.int .i64 0), (.int .i64 (wn t4 0 100000))]⟩, some ⟨.fix, [(.int .i64 (wn v0 0 1099511627776)), (.int .i64 (wn v1 0 1099511627776)), (.int .i64 (wn v2 0 1099511627776)), (.int .i64 (wn v3 0 1099511627776)), (.int .i64 (wn v4 0 1099511627776)), (.int .i64 (wn v5 0 1099511627776)), (.int .i64 (wn v6 0 1099511627776))]⟩, some ⟨.fix, [(.pointer (some ⟨0, 0, none⟩)), (.pointer (some ⟨0, 1, none⟩)), (.pointer (some ⟨0, 2, none⟩)), (.pointer (some ⟨0, 3, none⟩)), (.pointer (some ⟨0, 4, none⟩))]⟩, some ⟨.fix, [(.pointer (some ⟨1, 0, none⟩)), (.pointer (some ⟨1, 1, none⟩)), (.pointer (some ⟨1, 2, none⟩)), (.pointer (some ⟨1, 3, none⟩)), (.pointer (some ⟨1, 4, none⟩)), (.pointer (some ⟨1, 5, none⟩)), (.pointer (some ⟨1, 6, none⟩))]⟩])
 (.br ((wn x1 0 9) == 4)
 (.ret (pk .normal (fr 202 [(4, (.pointer (some ⟨0, 0, none⟩))), (5, (.pointer (some ⟨1, 0, none⟩))), (8, (.bool false))])) [some ⟨.fix, [(.int .i64 (wn t0 0 100000)), (.int .i64 (wn t1 0 100000)), (.int .i64 (wn t2 0 100000)), (.int .i64 (wn t3 0 100000)), (.int .i64 0)]⟩, some ⟨.fix, [(.int .i64 (wn v0 0 1099511627776)), (.int .i64 (wn v1 0 1099511627776)), (.int .i64 (wn v2 0 1099511627776)), (.int .i64 (wn v3 0 1099511627776)), (.int .i64 (wn v4 0 1099511627776)), (.int .i64 (wn v5 0 1099511627776)), (.int .i64 (wn v6 0 1099511627776))]⟩, some ⟨.fix, [(.pointer (some ⟨0, 0, none⟩)), (.pointer (some ⟨0, 1, none⟩)), (.pointer (some ⟨0, 2, none⟩)), (.pointer (some ⟨0, 3, none⟩)), (.pointer (some ⟨0, 4, none⟩))]⟩, some ⟨.fix, [(.pointer (some ⟨1, 0, none⟩)), (.pointer (some ⟨1, 1, none⟩)), (.pointer (some ⟨1, 2, none⟩)), (.pointer (some ⟨1, 3, none⟩)), (.pointer (some ⟨1, 4, none⟩)), (.pointer (some ⟨1, 5, none⟩)), (.pointer (some ⟨1, 6, none⟩))]⟩])
 (.ret (pk .normal (fr 202 [(4, (.pointer (some ⟨0, 0, none⟩))), (5, (.pointer (some ⟨1, 0, none⟩))), (8, (.bool false))])) [some ⟨.fix, [(.int .i64 (wn t0 0 100000)), (.int .i64 (wn t1 0 100000)), (.int .i64 (wn t2 0 100000)), (.int .i64 (wn t3 0 100000)), (.int .i64 (wn t4 0 100000))]⟩, some ⟨.fix, [(.int .i64 (wn v0 0 1099511627776)), (.int .i64 (wn v1 0 1099511627776)), (.int .i64 (wn v2 0 1099511627776)), (.int .i64 (wn v3 0 1099511627776)), (.int .i64 (wn v4 0 1099511627776)), (.int .i64 (wn v5 0 1099511627776)), (.int .i64 (wn v6 0 1099511627776))]⟩, some ⟨.fix, [(.pointer (some ⟨0, 0, none⟩)), (.pointer (some ⟨0, 1, none⟩)), (.pointer (some ⟨0, 2, none⟩)), (.pointer (some ⟨0, 3, none⟩)), (.pointer (some ⟨0, 4, none⟩))]⟩, some ⟨.fix, [(.pointer (some ⟨1, 0, none⟩)), (.pointer (some ⟨1, 1, none⟩)), (.pointer (some ⟨1, 2, none⟩)), (.pointer (some ⟨1, 3, none⟩)), (.pointer (some ⟨1, 4, none⟩)), (.pointer (some ⟨1, 5, none⟩)), (.pointer (some ⟨1, 6, none⟩))]⟩]))))))))))))))))))))) := by kernel_rfl

theorem okR : PlainOk Try.prog tblR := .cons (fun args v e => by
  unfold sRef at e
  split at e
  · simp only [Option.some.injEq, Prod.mk.injEq] at e
    obtain ⟨e1, rfl⟩ := e
    exact ⟨rfl, rfl, ref_sim e1⟩
  · cases e) okT
def Bt (t : Int) : Prop := 0 ≤ t ∧ t ≤ 100000
def Bv (v : Int) : Prop := 0 ≤ v ∧ v ≤ 1099511627776
theorem oc_ref {t a b : Int} (ht : Bt t) (ha : Bv a) (hb : Bv b) : (bif (t == 0) then true else (refB a b t)) = ocB t a b := by
  obtain ⟨t0, t1⟩ := ht; obtain ⟨a0, a1⟩ := ha; obtain ⟨b0, b1⟩ := hb
  simp only [ocB, alB, mayB, refB, Bool.cond_true_left, decide_eq_true t0, decide_eq_true t1, decide_eq_true a0, decide_eq_true a1, decide_eq_true b0, decide_eq_true b1, Bool.true_and, ge_iff_le]
theorem pre_ref {t a b : Int} (ht : Bt t) (ha : Bv a) (hb : Bv b) : preRef a b t = true := by
  obtain ⟨t0, t1⟩ := ht; obtain ⟨a0, a1⟩ := ha; obtain ⟨b0, b1⟩ := hb
  simp [preRef, preMul, *]
theorem mul_le {t a : Int} (ht : Bt t) (ha : Bv a) : 0 ≤ a * t ∧ a * t ≤ 109951162777600000 := ⟨Int.mul_nonneg ha.1 ht.1, by
    calc a * t ≤ 1099511627776 * 100000 := Int.mul_le_mul ha.2 ht.2 ht.1 (by decide)
      _ = 109951162777600000 := by decide⟩
theorem am_dec {t a b : Int} (ht : Bt t) (ha : Bv a) (hb : Bv b) : decide ((IntKind.wrap .i64 (a * 10000)) ≤ (IntKind.wrap .i64 (b * t))) = amB a b t := by
  have hm := mul_le ht hb
  rw [wrap_id (n := a * 10000) (by have := ha.1; omega) (by have := ha.2; omega), wrap_id (n := b * t) (by omega) (by omega)]
  obtain ⟨t0, t1⟩ := ht; obtain ⟨a0, a1⟩ := ha; obtain ⟨b0, b1⟩ := hb
  simp only [amB, mayB, decide_eq_true t0, decide_eq_true t1, decide_eq_true a0, decide_eq_true a1, decide_eq_true b0, decide_eq_true b1, Bool.true_and]
theorem mo_ref {t a b : Int} (ht : Bt t) (ha : Bv a) (hb : Bv b) : (bif (t == 0) then true else (decide ((IntKind.wrap .i64 (a * 10000)) ≤ (IntKind.wrap .i64 (b * t))))) = moB t a b := by
  rw [am_dec ht ha hb, moB, Bool.cond_true_left]
theorem cl_ref {t a b : Int} (ht : Bt t) (ha : Bv a) (hb : Bv b) : (bif (decide (t > 0)) then (decide ((IntKind.wrap .i64 (a * 10000)) ≤ (IntKind.wrap .i64 (b * t)))) else false) = cleanB t a b := by
  rw [am_dec ht ha hb, cleanB, Bool.cond_false_right]
  congr 1
  have := ht.1
  by_cases h : t = 0
  · simp [h]
  · have h2 : t > 0 := by omega
    simp [h, h2]
theorem retT_ok {h : Heap} {rs : List Res} {e : Ex} {s : Fr} {h' : Heap} {v : Value} {Q : Value → Heap → Prop} (he : e = .normal ∨ e = .ret) (hr : resA s h' rs = some v) (hQ : ∀ h, Q v h) : (retT h rs e s h').holds Q := by
  have : (match resA s h' rs with
      | some v => if letGo h v h' then Tr.ret v (h'.take h.length) else .ret v h'
      | none => .fail).holds Q := by
    rw [hr]
    dsimp only
    split
    · exact hQ _
    · exact hQ _
  rcases he with rfl | rfl
  · exact this
  · exact this
theorem tail {t0 t1 t2 t3 t4 v0 v1 v2 v3 v4 v5 v6 : Int} (h0 : Bt t0) (h1 : Bt t1) (h2 : Bt t2) (h3 : Bt t3) (h4 : Bt t4) (g0 : Bv v0) (g1 : Bv v1) (g2 : Bv v2) (g3 : Bv v3) (g4 : Bv v4) (g5 : Bv v5) (g6 : Bv v6) :
    Wp (Plain.env tblR noEnv) (resLv [.tmp 8]) il4b (fr 202 [(4, (.pointer (some ⟨0, 0, none⟩))), (5, (.pointer (some ⟨1, 0, none⟩))), (8, (.bool false))]) [some ⟨.fix, [(.int .i64 t0), (.int .i64 t1), (.int .i64 t2), (.int .i64 t3), (.int .i64 t4)]⟩, some ⟨.fix, [(.int .i64 v0), (.int .i64 v1), (.int .i64 v2), (.int .i64 v3), (.int .i64 v4), (.int .i64 v5), (.int .i64 v6)]⟩, some ⟨.fix, [(.pointer (some ⟨0, 0, none⟩)), (.pointer (some ⟨0, 1, none⟩)), (.pointer (some ⟨0, 2, none⟩)), (.pointer (some ⟨0, 3, none⟩)), (.pointer (some ⟨0, 4, none⟩))]⟩, some ⟨.fix, [(.pointer (some ⟨1, 0, none⟩)), (.pointer (some ⟨1, 1, none⟩)), (.pointer (some ⟨1, 2, none⟩)), (.pointer (some ⟨1, 3, none⟩)), (.pointer (some ⟨1, 4, none⟩)), (.pointer (some ⟨1, 5, none⟩)), (.pointer (some ⟨1, 6, none⟩))]⟩]
      fun e s h' => (retT [] [.tmp 8] e s h').holds fun v _ => v = .bool true := by
  refine Wp.piece 200 (hn4b t0 t1 t2 t3 t4 v0 v1 v2 v3 v4 v5 v6) ?_
  rw [tree4b]
  rw [oc_ref h0 g0 g2, oc_ref h1 g3 g4, mo_ref h2 g5 g0, mo_ref h3 g6 g1, cl_ref h4 g0 g1, pre_ref h0 g0 g2, pre_ref h1 g3 g4]
  have fin : ∀ {X : Bool} {h' : Heap}, X = true → outP (fun e s h' => (retT [] [.tmp 8] e s h').holds fun v _ => v = .bool true) (pk .ret (fr 202 [(8, (.bool X))])) h' := fun hX => outP_pk (retT_ok (.inr rfl) (by subst hX; rfl) fun _ => rfl)
  generalize ocB t0 v0 v2 = a
  generalize ocB t1 v3 v4 = b
  generalize moB t2 v5 v0 = c
  generalize moB t3 v6 v1 = d
  generalize cleanB t4 v0 v1 = e
  generalize (t0 == 0) = z0
  generalize (t1 == 0) = z1
  generalize (t2 == 0) = z2
  generalize (t3 == 0) = z3
  generalize decide (t4 > 0) = z4
  have q : ∀ b : Bool, (bif b then true else true) = true := fun b => by cases b <;> rfl
  simp only [Bool.and_true, Bool.true_and, q, beq_self_eq_true, cond_true]
  cases a <;> cases b <;> cases c <;> cases d <;> cases e <;> exact ⟨rfl, rfl, rfl, rfl, rfl, rfl, rfl, rfl, rfl, rfl, rfl, rfl, fin rfl⟩
theorem start4 (t0 t1 t2 t3 t4 v0 v1 v2 v3 v4 v5 v6 x0 x1 : Int) : (([(.agg ⟨[.int .i64 t0, .int .i64 t1, .int .i64 t2, .int .i64 t3, .int .i64 t4]⟩), (.agg ⟨[.int .i64 v0, .int .i64 v1, .int .i64 v2, .int .i64 v3, .int .i64 v4, .int .i64 v5, .int .i64 v6]⟩), .int .i64 x0, .int .i64 x1] : List Value) ++ List.replicate (il4.ntmps - ([(.agg ⟨[.int .i64 t0, .int .i64 t1, .int .i64 t2, .int .i64 t3, .int .i64 t4]⟩), (.agg ⟨[.int .i64 v0, .int .i64 v1, .int .i64 v2, .int .i64 v3, .int .i64 v4, .int .i64 v5, .int .i64 v6]⟩), .int .i64 x0, .int .i64 x1] : List Value).length) undef) = (fr 202 [(0, (.agg ⟨[(.int .i64 t0), (.int .i64 t1), (.int .i64 t2), (.int .i64 t3), (.int .i64 t4)]⟩)), (1, (.agg ⟨[(.int .i64 v0), (.int .i64 v1), (.int .i64 v2), (.int .i64 v3), (.int .i64 v4), (.int .i64 v5), (.int .i64 v6)]⟩)), (2, (.int .i64 x0)), (3, (.int .i64 x1))]) := by kernel_rfl
theorem sp4 : splitS 4 il4.body = (il4a, il4b) := by kernel_rfl
theorem sim4 (t0 t1 t2 t3 t4 v0 v1 v2 v3 v4 v5 v6 x0 x1 : Int) : Sim Try.prog 4 [(.agg ⟨[.int .i64 t0, .int .i64 t1, .int .i64 t2, .int .i64 t3, .int .i64 t4]⟩), (.agg ⟨[.int .i64 v0, .int .i64 v1, .int .i64 v2, .int .i64 v3, .int .i64 v4, .int .i64 v5, .int .i64 v6]⟩), .int .i64 x0, .int .i64 x1] [] fun v _ => v = .bool true := by
  refine wp_sim mixed (Plain.ok okR noEnv_ok) (Plain.quiet noEnv_quiet) st4 ?_
  rw [start4]
  refine Wp.split' (lv' := fun i => exL i il4b || resLv [.tmp 8] i) sp4 (fun i q => q) ?_
  refine Wp.piece 200 (hn4a t0 t1 t2 t3 t4 v0 v1 v2 v3 v4 v5 v6 x0 x1) ?_
  rw [tree4a]
  have z : Bt 0 := ⟨by decide, by decide⟩
  have gt : ∀ x, Bt (wn x 0 100000) := fun x => ⟨wn_lo (by omega), wn_hi (by omega)⟩
  have gv : ∀ x, Bv (wn x 0 1099511627776) := fun x => ⟨wn_lo (by omega), wn_hi (by omega)⟩
  have p1 : preWithin 0 100000 = true := by decide
  have p2 : preWithin 0 1099511627776 = true := by decide
  have p3 : preWithin 0 4 = true := by decide
  have p4 : preWithin 0 9 = true := by decide
  have m0 : ∀ t x, Bt t → Bv (if 0 > (IntKind.wrap .i64 ((IntKind.wrap .i64 (t + wn x 0 4)) - 2)) then 0 else (IntKind.wrap .i64 ((IntKind.wrap .i64 (t + wn x 0 4)) - 2))) := fun t x ht => by
    have a := wn_lo (x := x) (lo := 0) (hi := 4) (by omega)
    have b := wn_hi (x := x) (lo := 0) (hi := 4) (by omega)
    obtain ⟨c, d⟩ := ht
    rw [wrap_id (n := t + wn x 0 4) (by omega) (by omega), wrap_id (n := t + wn x 0 4 - 2) (by omega) (by omega)]
    unfold Bv
    split <;> omega
  have v2 : Bv 10000 := ⟨by decide, by decide⟩
  have m1 : Bv (if 0 > (IntKind.wrap .i64 ((IntKind.wrap .i64 (wn t0 0 100000 + wn (IntKind.wrap .i64 (Int.tdiv x0 2)) 0 4)) - 2)) then 0 else (IntKind.wrap .i64 ((IntKind.wrap .i64 (wn t0 0 100000 + wn (IntKind.wrap .i64 (Int.tdiv x0 2)) 0 4)) - 2))) := m0 _ _ (gt t0)
  have fin : ∀ {a0 a1 a2 a3 a4 b0 b1 b2 b3 b4 b5 b6 : Int}, Bt a0 → Bt a1 → Bt a2 → Bt a3 → Bt a4 → Bv b0 → Bv b1 → Bv b2 → Bv b3 → Bv b4 → Bv b5 → Bv b6 → outP (thenK (fun t h => Wp (Plain.env tblR noEnv) (resLv [.tmp 8]) il4b t h fun e s h' => (retT [] [.tmp 8] e s h').holds fun v _ => v = .bool true) fun e s h' => (retT [] [.tmp 8] e s h').holds fun v _ => v = .bool true)
      (pk .normal (fr 202 [(4, (.pointer (some ⟨0, 0, none⟩))), (5, (.pointer (some ⟨1, 0, none⟩))), (8, (.bool false))])) [some ⟨.fix, [(.int .i64 a0), (.int .i64 a1), (.int .i64 a2), (.int .i64 a3), (.int .i64 a4)]⟩, some ⟨.fix, [(.int .i64 b0), (.int .i64 b1), (.int .i64 b2), (.int .i64 b3), (.int .i64 b4), (.int .i64 b5), (.int .i64 b6)]⟩, some ⟨.fix, [(.pointer (some ⟨0, 0, none⟩)), (.pointer (some ⟨0, 1, none⟩)), (.pointer (some ⟨0, 2, none⟩)), (.pointer (some ⟨0, 3, none⟩)), (.pointer (some ⟨0, 4, none⟩))]⟩, some ⟨.fix, [(.pointer (some ⟨1, 0, none⟩)), (.pointer (some ⟨1, 1, none⟩)), (.pointer (some ⟨1, 2, none⟩)), (.pointer (some ⟨1, 3, none⟩)), (.pointer (some ⟨1, 4, none⟩)), (.pointer (some ⟨1, 5, none⟩)), (.pointer (some ⟨1, 6, none⟩))]⟩] := fun c0 c1 c2 c3 c4 d0 d1 d2 d3 d4 d5 d6 => outP_pk (tail c0 c1 c2 c3 c4 d0 d1 d2 d3 d4 d5 d6)
  rw [p1, p2, p3, p4]
  have go : ∀ {b : Bool} {l r : Tr} {Q : Value → Heap → Prop}, l.holds Q → r.holds Q → (Tr.br b l r).holds Q := fun hl hr => ⟨fun _ => hl, fun _ => hr⟩
  refine ⟨rfl, rfl, rfl, rfl, rfl, rfl, rfl, rfl, rfl, rfl, rfl, rfl, and_ok _ x0 _, ?_⟩
  refine go ⟨rfl, rfl, rfl, rfl, ?_⟩ ⟨rfl, ?_⟩
  · refine go (fin z (gt _) (gt _) (gt _) (gt _) m1 (gv _) v2 (gv _) (gv _) (gv _) (gv _)) ?_
    refine go (fin (gt _) z (gt _) (gt _) (gt _) m1 (gv _) v2 (gv _) (gv _) (gv _) (gv _)) ?_
    refine go (fin (gt _) (gt _) z (gt _) (gt _) m1 (gv _) v2 (gv _) (gv _) (gv _) (gv _)) ?_
    refine go (fin (gt _) (gt _) (gt _) z (gt _) m1 (gv _) v2 (gv _) (gv _) (gv _) (gv _)) ?_
    refine go (fin (gt _) (gt _) (gt _) (gt _) z m1 (gv _) v2 (gv _) (gv _) (gv _) (gv _)) ?_
    exact fin (gt _) (gt _) (gt _) (gt _) (gt _) m1 (gv _) v2 (gv _) (gv _) (gv _) (gv _)
  · refine go (fin z (gt _) (gt _) (gt _) (gt _) (gv _) (gv _) (gv _) (gv _) (gv _) (gv _) (gv _)) ?_
    refine go (fin (gt _) z (gt _) (gt _) (gt _) (gv _) (gv _) (gv _) (gv _) (gv _) (gv _) (gv _)) ?_
    refine go (fin (gt _) (gt _) z (gt _) (gt _) (gv _) (gv _) (gv _) (gv _) (gv _) (gv _) (gv _)) ?_
    refine go (fin (gt _) (gt _) (gt _) z (gt _) (gv _) (gv _) (gv _) (gv _) (gv _) (gv _) (gv _)) ?_
    refine go (fin (gt _) (gt _) (gt _) (gt _) z (gv _) (gv _) (gv _) (gv _) (gv _) (gv _) (gv _)) ?_
    exact fin (gt _) (gt _) (gt _) (gt _) (gt _) (gv _) (gv _) (gv _) (gv _) (gv _) (gv _) (gv _)
end Go.Proofs.Ytjnppjipoibbeaa.Tests
