/-
  The law PoolKeeps: a tape's turn.
-/
import Derived.Test.YtgdojnamjkhknaaPo7
namespace Go.Proofs.Ytgdojnamjkhknaa
open Go.Am
set_option linter.all false
set_option maxRecDepth 100000
namespace PO
namespace KP
open TL (TN TNOk)
open OF (ofF)
def body14_0 : IL := .seq (.seq (.reg [
     ⟨(some 41), none, .mov (.tmp 11)⟩,
     ⟨(some 42), none, .mov (.tmp 1)⟩,
     ⟨(some 43), none, .len (.tmp 42)⟩,
     ⟨(some 44), none, .bin .lss (.tmp 41) (.tmp 43)⟩,
     ⟨(some 45), none, .mov (.tmp 44)⟩,
     ⟨(some 46), (some (45, true)), .mov (.tmp 11)⟩,
     ⟨(some 47), (some (45, true)), .bin .lss (.tmp 46) (.const (.int .i64 8))⟩,
     ⟨(some 48), none, .pick (.tmp 45) (.tmp 47) (.const (.bool false))⟩])
  (.ite (.tmp 48)
    (.skip)
    (.exit 0)))
 (.seq (.block 1
    (.seq (.reg [
       ⟨(some 12), none, .mov (.const (.slice none 0 0))⟩])
    (.seq (.reg [
       ⟨(some 13), none, .mov (.const (.slice none 0 0))⟩])
    (.seq (.reg [
       ⟨(some 51), none, .mov (.tmp 8)⟩,
       ⟨(some 52), none, .call 58 [(.tmp 51)]⟩,
       ⟨(some 14), none, .mov (.tmp 52)⟩])
    (.seq (.seq (.reg [
        ⟨(some 53), none, .mov (.tmp 14)⟩,
        ⟨(some 54), none, .len (.tmp 53)⟩,
        ⟨(some 55), none, .mov (.const (.int .i64 0))⟩])
     (.block 2
       (.loop
         (.seq (.reg [
            ⟨(some 56), none, .bin .lss (.tmp 55) (.tmp 54)⟩])
         (.seq (.ite (.tmp 56)
            (.skip)
            (.exit 2))
         (.seq (.block 3
            (.seq (.reg [
               ⟨(some 57), none, .iadr 5 none (.tmp 53) (.tmp 55)⟩,
               ⟨(some 58), none, .load (.tmp 57) (some 5)⟩,
               ⟨(some 16), none, .alloc [(.int .i64 0), (.int .i64 0), (.int .i64 0), (.int .i64 0), (.bool false)]⟩,
               ⟨none, none, .store (.tmp 16) (.tmp 58) 5⟩])
            (.seq (.reg [
               ⟨(some 59), none, .mov (.tmp 12)⟩,
               ⟨(some 60), none, .fadr 0 (.tmp 16)⟩,
               ⟨(some 61), none, .load (.tmp 60) (some 2)⟩,
               ⟨(some 62), none, .mkrow [(.int .i64 0), (.int .i64 0)] 1 [(0, 2, (.tmp 61))]⟩,
               ⟨(some 63), none, .append 2 16 (.tmp 59) (.tmp 62)⟩,
               ⟨(some 12), none, .mov (.tmp 63)⟩])
            (.reg [
              ⟨(some 64), none, .mov (.tmp 13)⟩,
              ⟨(some 65), none, .fadr 2 (.tmp 16)⟩,
              ⟨(some 66), none, .load (.tmp 65) none⟩,
              ⟨(some 67), none, .mkrow [(.int .i64 0)] 1 [(0, 1, (.tmp 66))]⟩,
              ⟨(some 68), none, .append 1 8 (.tmp 64) (.tmp 67)⟩,
              ⟨(some 13), none, .mov (.tmp 68)⟩]))))
         (.reg [
           ⟨(some 69), none, .bin .add (.tmp 55) (.const (.int .i64 1))⟩,
           ⟨(some 55), none, .mov (.tmp 69)⟩])))))))
    (.seq (.reg [
       ⟨(some 70), none, .mov (.tmp 1)⟩,
       ⟨(some 71), none, .mov (.tmp 11)⟩,
       ⟨(some 72), none, .iadr 6 none (.tmp 70) (.tmp 71)⟩,
       ⟨(some 73), none, .load (.tmp 72) (some 6)⟩,
       ⟨(some 74), none, .mov (.tmp 12)⟩,
       ⟨(some 75), none, .mov (.tmp 13)⟩,
       ⟨(some 76), none, .call 52 [(.tmp 73), (.tmp 74), (.tmp 75)]⟩,
       ⟨(some 17), none, .mov (.tmp 76)⟩])
    (.seq (.reg [
       ⟨(some 77), none, .mov (.tmp 8)⟩,
       ⟨(some 78), none, .call 59 [(.tmp 77)]⟩,
       ⟨(some 18), none, .mov (.tmp 78)⟩])
    (.seq (.seq (.reg [
        ⟨(some 79), none, .mov (.tmp 18)⟩,
        ⟨(some 80), none, .eqv false .ptr (.tmp 79) (.const (.pointer none))⟩])
     (.ite (.tmp 80)
       (.seq (.reg [
          ⟨(some 6), none, .mov (.const (.bool false))⟩])
       (.ret))
       (.skip)))
    (.seq (.reg [
       ⟨(some 82), none, .mov (.tmp 8)⟩,
       ⟨(some 83), none, .mov (.tmp 17)⟩,
       ⟨(some 84), none, .call 46 [(.tmp 82), (.tmp 83)]⟩,
       ⟨(some 81), none, .mov (.tmp 84)⟩,
       ⟨(some 85), none, .ext 0 (.tmp 81)⟩,
       ⟨(some 86), none, .ext 1 (.tmp 81)⟩,
       ⟨(some 19), none, .alloc [(.int .i64 0), (.int .i64 0), (.int .i64 0), (.int .i64 0)]⟩,
       ⟨none, none, .store (.tmp 19) (.tmp 85) 4⟩,
       ⟨(some 20), none, .mov (.tmp 86)⟩])
    (.seq (.seq (.dreg [
        ⟨(some 87), none, .mov (.tmp 20)⟩,
        ⟨(some 88), none, .bin .neq (.tmp 87) (.const (.int .i64 0))⟩,
        ⟨(some 89), none, .mov (.tmp 88)⟩,
        ⟨(some 90), (some (89, false)), .mov (.tmp 9)⟩,
        ⟨(some 91), (some (89, false)), .mov (.tmp 8)⟩,
        ⟨(some 92), (some (89, false)), .call 47 [(.tmp 91)]⟩,
        ⟨(some 93), (some (89, false)), .bin .sub (.tmp 90) (.tmp 92)⟩,
        ⟨(some 94), (some (89, false)), .fadr 0 (.tmp 19)⟩,
        ⟨(some 95), (some (89, false)), .load (.tmp 94) none⟩,
        ⟨(some 96), (some (89, false)), .fadr 2 (.tmp 19)⟩,
        ⟨(some 97), (some (89, false)), .load (.tmp 96) none⟩,
        ⟨(some 98), (some (89, false)), .bin .add (.tmp 95) (.tmp 97)⟩,
        ⟨(some 99), (some (89, false)), .bin .neq (.tmp 93) (.tmp 98)⟩,
        ⟨(some 100), none, .pick (.tmp 89) (.const (.bool true)) (.tmp 99)⟩] [(8, 5), (10, 5)])
     (.ite (.tmp 100)
       (.seq (.reg [
          ⟨(some 6), none, .mov (.const (.bool false))⟩])
       (.ret))
       (.skip)))
    (.seq (.dreg [
       ⟨(some 101), none, .mov (.tmp 8)⟩,
       ⟨(some 102), none, .call 47 [(.tmp 101)]⟩,
       ⟨(some 103), none, .mov (.tmp 10)⟩,
       ⟨(some 104), none, .fadr 2 (.tmp 19)⟩,
       ⟨(some 105), none, .load (.tmp 104) none⟩,
       ⟨(some 106), none, .bin .add (.tmp 103) (.tmp 105)⟩,
       ⟨(some 107), none, .fadr 3 (.tmp 19)⟩,
       ⟨(some 108), none, .load (.tmp 107) none⟩,
       ⟨(some 109), none, .bin .sub (.tmp 106) (.tmp 108)⟩,
       ⟨(some 9), none, .mov (.tmp 102)⟩,
       ⟨(some 10), none, .mov (.tmp 109)⟩] [(4, 1), (7, 1)])
    (.seq (.seq (.reg [
        ⟨(some 110), none, .mov (.tmp 8)⟩,
        ⟨(some 111), none, .call 48 [(.tmp 110)]⟩,
        ⟨(some 112), none, .mov (.tmp 10)⟩,
        ⟨(some 113), none, .bin .neq (.tmp 111) (.tmp 112)⟩,
        ⟨(some 114), none, .mov (.tmp 113)⟩,
        ⟨(some 115), (some (114, false)), .mov (.tmp 10)⟩,
        ⟨(some 116), (some (114, false)), .bin .lss (.tmp 115) (.const (.int .i64 0))⟩,
        ⟨(some 117), none, .pick (.tmp 114) (.const (.bool true)) (.tmp 116)⟩])
     (.ite (.tmp 117)
       (.seq (.reg [
          ⟨(some 6), none, .mov (.const (.bool false))⟩])
       (.ret))
       (.skip)))
    (.seq (.seq (.reg [
        ⟨(some 118), none, .mov (.tmp 18)⟩,
        ⟨(some 119), none, .call 58 [(.tmp 118)]⟩,
        ⟨(some 120), none, .len (.tmp 119)⟩,
        ⟨(some 121), none, .mov (.tmp 14)⟩,
        ⟨(some 122), none, .len (.tmp 121)⟩,
        ⟨(some 123), none, .bin .neq (.tmp 120) (.tmp 122)⟩,
        ⟨(some 124), none, .mov (.tmp 123)⟩,
        ⟨(some 125), (some (124, false)), .mov (.tmp 8)⟩,
        ⟨(some 126), (some (124, false)), .call 58 [(.tmp 125)]⟩,
        ⟨(some 127), (some (124, false)), .len (.tmp 126)⟩,
        ⟨(some 128), (some (124, false)), .mov (.tmp 14)⟩,
        ⟨(some 129), (some (124, false)), .len (.tmp 128)⟩,
        ⟨(some 130), (some (124, false)), .bin .neq (.tmp 127) (.tmp 129)⟩,
        ⟨(some 131), none, .pick (.tmp 124) (.const (.bool true)) (.tmp 130)⟩])
     (.ite (.tmp 131)
       (.seq (.reg [
          ⟨(some 6), none, .mov (.const (.bool false))⟩])
       (.ret))
       (.skip)))
    (.seq (.seq (.reg [
        ⟨(some 132), none, .mov (.tmp 18)⟩,
        ⟨(some 133), none, .call 58 [(.tmp 132)]⟩,
        ⟨(some 134), none, .len (.tmp 133)⟩,
        ⟨(some 135), none, .mov (.const (.int .i64 0))⟩])
     (.block 4
       (.loop
         (.seq (.reg [
            ⟨(some 136), none, .bin .lss (.tmp 135) (.tmp 134)⟩])
         (.seq (.ite (.tmp 136)
            (.skip)
            (.exit 4))
         (.seq (.block 5
            (.seq (.reg [
               ⟨(some 137), none, .mov (.tmp 135)⟩,
               ⟨(some 138), none, .iadr 5 none (.tmp 133) (.tmp 135)⟩,
               ⟨(some 139), none, .load (.tmp 138) (some 5)⟩,
               ⟨(some 22), none, .alloc [(.int .i64 0), (.int .i64 0), (.int .i64 0), (.int .i64 0), (.bool false)]⟩,
               ⟨(some 21), none, .mov (.tmp 137)⟩,
               ⟨none, none, .store (.tmp 22) (.tmp 139) 5⟩])
            (.seq (.reg [
               ⟨(some 23), none, .mov (.const (.bool false))⟩])
            (.seq (.seq (.reg [
                ⟨(some 140), none, .mov (.tmp 17)⟩,
                ⟨(some 141), none, .len (.tmp 140)⟩,
                ⟨(some 142), none, .mov (.const (.int .i64 0))⟩])
             (.block 6
               (.loop
                 (.seq (.reg [
                    ⟨(some 143), none, .bin .lss (.tmp 142) (.tmp 141)⟩])
                 (.seq (.ite (.tmp 143)
                    (.skip)
                    (.exit 6))
                 (.seq (.block 7
                    (.seq (.reg [
                       ⟨(some 144), none, .iadr 7 none (.tmp 140) (.tmp 142)⟩,
                       ⟨(some 145), none, .load (.tmp 144) (some 7)⟩,
                       ⟨(some 25), none, .alloc [(.int .i64 0), (.int .i64 0), (.int .i64 0), (.int .i64 0), (.int .i64 0), (.int .i64 0), (.bool false)]⟩,
                       ⟨none, none, .store (.tmp 25) (.tmp 145) 7⟩])
                    (.reg [
                      ⟨(some 146), none, .mov (.tmp 23)⟩,
                      ⟨(some 147), none, .mov (.tmp 146)⟩,
                      ⟨(some 148), (some (147, false)), .fadr 0 (.tmp 25)⟩,
                      ⟨(some 149), (some (147, false)), .load (.tmp 148) none⟩,
                      ⟨(some 150), (some (147, false)), .fadr 0 (.tmp 22)⟩,
                      ⟨(some 151), (some (147, false)), .fadr 0 (.tmp 150)⟩,
                      ⟨(some 152), (some (147, false)), .load (.tmp 151) none⟩,
                      ⟨(some 153), (some (147, false)), .bin .eql (.tmp 149) (.tmp 152)⟩,
                      ⟨(some 154), none, .pick (.tmp 147) (.const (.bool true)) (.tmp 153)⟩,
                      ⟨(some 23), none, .mov (.tmp 154)⟩])))
                 (.reg [
                   ⟨(some 155), none, .bin .add (.tmp 142) (.const (.int .i64 1))⟩,
                   ⟨(some 142), none, .mov (.tmp 155)⟩])))))))
            (.seq (.dreg [
               ⟨(some 156), none, .load (.tmp 22) (some 5)⟩,
               ⟨(some 157), none, .mov (.tmp 14)⟩,
               ⟨(some 158), none, .mov (.tmp 21)⟩,
               ⟨(some 159), none, .iadr 5 none (.tmp 157) (.tmp 158)⟩,
               ⟨(some 160), none, .load (.tmp 159) (some 5)⟩,
               ⟨(some 161), none, .eqv true (.cells [false, false, false, false, true]) (.tmp 156) (.tmp 160)⟩,
               ⟨(some 162), none, .mov (.tmp 161)⟩,
               ⟨(some 163), (some (162, false)), .mov (.tmp 23)⟩,
               ⟨(some 164), (some (162, false)), .un .not (.tmp 163)⟩,
               ⟨(some 165), (some (162, false)), .mov (.tmp 164)⟩,
               ⟨(some 166), (some (165, true)), .mov (.tmp 8)⟩,
               ⟨(some 167), (some (165, true)), .call 58 [(.tmp 166)]⟩,
               ⟨(some 168), (some (165, true)), .mov (.tmp 21)⟩,
               ⟨(some 169), (some (165, true)), .iadr 5 none (.tmp 167) (.tmp 168)⟩,
               ⟨(some 170), (some (165, true)), .load (.tmp 169) (some 5)⟩,
               ⟨(some 171), (some (165, true)), .load (.tmp 22) (some 5)⟩,
               ⟨(some 172), (some (165, true)), .eqv true (.cells [false, false, false, false, true]) (.tmp 170) (.tmp 171)⟩,
               ⟨(some 173), (some (162, false)), .pick (.tmp 165) (.tmp 172) (.const (.bool false))⟩,
               ⟨(some 174), none, .pick (.tmp 162) (.const (.bool true)) (.tmp 173)⟩] [(15, 11)])
            (.ite (.tmp 174)
              (.seq (.reg [
                 ⟨(some 6), none, .mov (.const (.bool false))⟩])
              (.ret))
              (.skip)))))))
         (.reg [
           ⟨(some 175), none, .bin .add (.tmp 135) (.const (.int .i64 1))⟩,
           ⟨(some 135), none, .mov (.tmp 175)⟩])))))))
    (.seq (.reg [
       ⟨(some 177), none, .mov (.tmp 8)⟩,
       ⟨(some 178), none, .mov (.tmp 17)⟩,
       ⟨(some 179), none, .build [(.int .i64 0), (.int .i64 0), (.int .i64 0), (.int .i64 0), (.int .i64 0), (.int .i64 0), (.bool false)] [(0, 1, (.const (.int .i64 1073741824)))]⟩,
       ⟨(some 180), none, .mkrow [(.int .i64 0), (.int .i64 0), (.int .i64 0), (.int .i64 0), (.int .i64 0), (.int .i64 0), (.bool false)] 1 [(0, 7, (.tmp 179))]⟩,
       ⟨(some 181), none, .append 7 56 (.tmp 178) (.tmp 180)⟩,
       ⟨(some 182), none, .call 46 [(.tmp 177), (.tmp 181)]⟩,
       ⟨(some 176), none, .mov (.tmp 182)⟩,
       ⟨(some 183), none, .ext 0 (.tmp 176)⟩,
       ⟨(some 184), none, .ext 1 (.tmp 176)⟩,
       ⟨(some 26), none, .alloc [(.int .i64 0), (.int .i64 0), (.int .i64 0), (.int .i64 0)]⟩,
       ⟨none, none, .store (.tmp 26) (.tmp 183) 4⟩,
       ⟨(some 27), none, .mov (.tmp 184)⟩])
    (.seq (.reg [
       ⟨(some 185), none, .mov (.tmp 27)⟩,
       ⟨(some 186), none, .bin .neq (.tmp 185) (.const (.int .i64 3))⟩,
       ⟨(some 187), none, .mov (.tmp 186)⟩,
       ⟨(some 188), (some (187, false)), .mov (.tmp 8)⟩,
       ⟨(some 189), (some (187, false)), .call 47 [(.tmp 188)]⟩,
       ⟨(some 190), (some (187, false)), .mov (.tmp 9)⟩,
       ⟨(some 191), (some (187, false)), .bin .neq (.tmp 189) (.tmp 190)⟩,
       ⟨(some 192), none, .pick (.tmp 187) (.const (.bool true)) (.tmp 191)⟩])
    (.ite (.tmp 192)
      (.seq (.reg [
         ⟨(some 6), none, .mov (.const (.bool false))⟩])
      (.ret))
      (.skip))))))))))))))))))
 (.reg [
   ⟨(some 49), none, .mov (.tmp 11)⟩,
   ⟨(some 50), none, .bin .add (.tmp 49) (.const (.int .i64 1))⟩,
   ⟨(some 11), none, .mov (.tmp 50)⟩]))
def hn14t (ta wa na la ya ca da ea va qa a1 a2 : Option Addr) (nt ct n wc nc lc m yc cc dc ec vc m1 qc c1 c2 : Nat) (u0 u1 u2 u3 u4 u5 : Value) (id h w i h2 dl w1 w2 : Int) (t : A4) (b1 o1 : Nat) (A B X1 X2 X3 Y3 X4 X5 X6 X7 X8 X9 X10 X11 : Heap) : Hs := (.join 3 (.con (.con (.con .nil))) (.con (.con (.con .nil))) (.sym (.use 26000052 (.raw (.slice wa n wc)) ⟨[], [.seg X1]⟩ (.lp 2 [1, 2, 6, 8, 9, 10, 11, 12, 13, 14] (frS 234 [(1, (.raw (.slice ta nt ct))), (2, (sI id)), (6, (sB false)), (8, (.ptr 1 0)), (9, (sI h)), (10, (sI w)), (11, (sI i)), (12, (.raw (.slice na n nc))), (13, (.raw (.slice la n lc))), (14, (.raw (.slice wa n wc)))]) ⟨[], [.seg X2]⟩ (.pur 22000072 (.pointer (some ⟨b1, o1, none⟩)) (.bas 7000073 (.agg ⟨[u0, u1, u2, u3, u4, u5]⟩) (.use 26000076 (.raw (.slice ya m yc)) ⟨[], [.seg X3]⟩ (.use 26000078 (.ptr 7 0) ⟨[], [.seg X4, .blk .fix [(.raw (.slice ca n cc))]]⟩ (.con (.use 26000084 (.raw (.tuple ⟨[(.agg ⟨[(.int .i64 t.p), (.int .i64 t.i), (.int .i64 t.l), (.int .i64 t.r)]⟩), (.int .i64 0)]⟩)) ⟨[(1, .blk .fix [(.raw (.slice a2 n c2))])], [.seg X5]⟩ (.crs [none, none, none, none, none, some ((sI h2), ⟨[], []⟩), some ((sI dl), ⟨[], []⟩), none, none, none, none, some ((sI dl), ⟨[], []⟩), some ((sB false), ⟨[], []⟩), none] (.con (.crs [none, some ((sI h2), ⟨[], []⟩), none, none, none, some ((sI w1), ⟨[], []⟩), none, none, some ((sI w2), ⟨[], []⟩), none, none] (.use 26000111 (sI w2) ⟨[], []⟩ (.pur 10000113 (.bool false) (.con (.con (.pur 10000116 (.bool false) (.con (.con (.use 26000119 (.raw (.slice da n dc)) ⟨[], [.seg X6]⟩ (.pur 10000123 (.bool false) (.con (.con (.use 26000126 (.raw (.slice ea n ec)) ⟨[], [.seg X7]⟩ (.con (.con (.con (.con (.pur 10000130 (.bool false) (.con (.con (.use 26000133 (.raw (.slice va n vc)) ⟨[], [.seg X8]⟩ (.lp 4 [1, 2, 6, 8, 9, 10, 11, 17] (frS 234 [(1, (.raw (.slice ta nt ct))), (2, (sI id)), (6, (sB false)), (8, (.ptr 1 0)), (9, (sI h2)), (10, (sI w2)), (11, (sI i)), (17, (.raw (.slice ya m yc)))]) ⟨[], [.seg X9]⟩ (.use 30000181 (.raw (.slice qa m1 qc)) ⟨[(5, .seg Y3)], [.seg X10]⟩ (.use 26000182 (.raw (.tuple ⟨[(.agg ⟨[(.int .i64 0), (.int .i64 0), (.int .i64 0), (.int .i64 0)]⟩), (.int .i64 3)]⟩)) ⟨[], [.seg X11]⟩ (.con (.con (.use 26000189 (sI h2) ⟨[], []⟩ (.con (.con (.pur 10000191 (.bool false) (.con (.con .nil)))))))))))))))))))))))))))))))))))))))))) .nil))
theorem tree14t (ta wa na la ya ca da ea va qa a1 a2 : Option Addr) (nt ct n wc nc lc m yc cc dc ec vc m1 qc c1 c2 : Nat) (u0 u1 u2 u3 u4 u5 : Value) (id h w i h2 dl w1 w2 : Int) (t : A4) (b1 o1 : Nat) (A B X1 X2 X3 Y3 X4 X5 X6 X7 X8 X9 X10 X11 : Heap) : pieceS tblK (gE 0) (cE 0) 600 (fun i => exL i body14_0 || inL [2, 6, 8] i) body14_0 (hn14t ta wa na la ya ca da ea va qa a1 a2 nt ct n wc nc lc m yc cc dc ec vc m1 qc c1 c2 u0 u1 u2 u3 u4 u5 id h w i h2 dl w1 w2 t b1 o1 A B X1 X2 X3 Y3 X4 X5 X6 X7 X8 X9 X10 X11) (frS 234 [(1, (.raw (.slice ta nt ct))), (2, (sI id)), (6, (sB false)), (8, (.ptr 1 0)), (9, (sI h)), (10, (sI w)), (11, (sI i))]) [.seg A, .blk .fix [(.raw (.slice a1 n c1))], .seg B] =
(.req (bif (decide (i < (nt : Int))) then true else true) (.br (bif (decide (i < (nt : Int))) then (decide (i < 8)) else false)
 (.claim (opA (Plain.env tblK (gE 0)) (.call 58 [(.const (denV (ofs [.seg A, .blk .fix [(.raw (.slice a1 n c1))], .seg B]) (.ptr 1 0)))]) [] (denH [.seg A, .blk .fix [(.raw (.slice a1 n c1))], .seg B]) = some ((.slice wa n wc), denH [.seg A, .blk .fix [(.raw (.slice a1 n c1))], .seg B, .seg X1]))
 (.claim (Wp (Plain.env tblK (gE 0)) (inL [1, 2, 6, 8, 9, 10, 11, 12, 13, 14]) (.block 2 (.loop body14_2)) (denF [.seg A, .blk .fix [(.raw (.slice a1 n c1))], .seg B, .seg X1] (frS 234 [(1, (.raw (.slice ta nt ct))), (2, (sI id)), (6, (sB false)), (8, (.ptr 1 0)), (9, (sI h)), (10, (sI w)), (11, (sI i)), (12, (.raw (.slice none 0 0))), (13, (.raw (.slice none 0 0))), (14, (.raw (.slice wa n wc))), (53, (.raw (.slice wa n wc))), (54, (sI (n : Int))), (55, (sI 0))])) (denH [.seg A, .blk .fix [(.raw (.slice a1 n c1))], .seg B, .seg X1]) fun e_ s_ h_ => e_ = .normal ∧ s_ = denF [.seg A, .blk .fix [(.raw (.slice a1 n c1))], .seg B, .seg X1, .seg X2] (frS 234 [(1, (.raw (.slice ta nt ct))), (2, (sI id)), (6, (sB false)), (8, (.ptr 1 0)), (9, (sI h)), (10, (sI w)), (11, (sI i)), (12, (.raw (.slice na n nc))), (13, (.raw (.slice la n lc))), (14, (.raw (.slice wa n wc)))]) ∧ h_ = denH [.seg A, .blk .fix [(.raw (.slice a1 n c1))], .seg B, .seg X1, .seg X2])
 (.claim (opA (Plain.env tblK (gE 0)) (.iadr 6 none (.const (.slice ta nt ct)) (.const (.int .i64 i))) [] [] = some ((.pointer (some ⟨b1, o1, none⟩)), []))
 (.claim (opA (Plain.env tblK (gE 0)) (.load (.const (.pointer (some ⟨b1, o1, none⟩))) (some 6)) [] A = some ((.agg ⟨[u0, u1, u2, u3, u4, u5]⟩), A))
 (.claim (opA (Plain.env tblK (gE 0)) (.call 52 [(.const (.agg ⟨[u0, u1, u2, u3, u4, u5]⟩)), (.const (.slice na n nc)), (.const (.slice la n lc))]) [] (denH [.seg A, .blk .fix [(.raw (.slice a1 n c1))], .seg B, .seg X1, .seg X2]) = some ((.slice ya m yc), denH [.seg A, .blk .fix [(.raw (.slice a1 n c1))], .seg B, .seg X1, .seg X2, .seg X3]))
 (.claim (opA (Plain.env tblK (gE 0)) (.call 59 [(.const (denV (ofs [.seg A, .blk .fix [(.raw (.slice a1 n c1))], .seg B, .seg X1, .seg X2, .seg X3]) (.ptr 1 0)))]) [] (denH [.seg A, .blk .fix [(.raw (.slice a1 n c1))], .seg B, .seg X1, .seg X2, .seg X3]) = some ((denV (ofs [.seg A, .blk .fix [(.raw (.slice a1 n c1))], .seg B, .seg X1, .seg X2, .seg X3, .seg X4, .blk .fix [(.raw (.slice ca n cc))]]) (.ptr 7 0)), denH [.seg A, .blk .fix [(.raw (.slice a1 n c1))], .seg B, .seg X1, .seg X2, .seg X3, .seg X4, .blk .fix [(.raw (.slice ca n cc))]]))
 (.claim (opA (Plain.env tblK (gE 0)) (.call 46 [(.const (denV (ofs [.seg A, .blk .fix [(.raw (.slice a1 n c1))], .seg B, .seg X1, .seg X2, .seg X3, .seg X4, .blk .fix [(.raw (.slice ca n cc))]]) (.ptr 1 0))), (.const (.slice ya m yc))]) [] (denH [.seg A, .blk .fix [(.raw (.slice a1 n c1))], .seg B, .seg X1, .seg X2, .seg X3, .seg X4, .blk .fix [(.raw (.slice ca n cc))]]) = some ((.tuple ⟨[(.agg ⟨[(.int .i64 t.p), (.int .i64 t.i), (.int .i64 t.l), (.int .i64 t.r)]⟩), (.int .i64 0)]⟩), denH [.seg A, .blk .fix [(.raw (.slice a2 n c2))], .seg B, .seg X1, .seg X2, .seg X3, .seg X4, .blk .fix [(.raw (.slice ca n cc))], .seg X5]))
 (.req true (.req true (.req true (.req true (.req true (.claim (opA (Plain.env tblK (gE 0)) (.call 47 [(.const (denV (ofs [.seg A, .blk .fix [(.raw (.slice a2 n c2))], .seg B, .seg X1, .seg X2, .seg X3, .seg X4, .blk .fix [(.raw (.slice ca n cc))], .seg X5, .blk .fix [(sI t.p), (sI t.i), (sI t.l), (sI t.r)]]) (.ptr 1 0)))]) [] (denH [.seg A, .blk .fix [(.raw (.slice a2 n c2))], .seg B, .seg X1, .seg X2, .seg X3, .seg X4, .blk .fix [(.raw (.slice ca n cc))], .seg X5, .blk .fix [(sI t.p), (sI t.i), (sI t.l), (sI t.r)]]) = some ((.int .i64 h2), denH [.seg A, .blk .fix [(.raw (.slice a2 n c2))], .seg B, .seg X1, .seg X2, .seg X3, .seg X4, .blk .fix [(.raw (.slice ca n cc))], .seg X5, .blk .fix [(sI t.p), (sI t.i), (sI t.l), (sI t.r)]]))
 (.claim (opA (Plain.env tblK (gE 0)) (.bin .sub (.const (.int .i64 h)) (.const (.int .i64 h2))) [] (denH [.seg A, .blk .fix [(.raw (.slice a2 n c2))], .seg B, .seg X1, .seg X2, .seg X3, .seg X4, .blk .fix [(.raw (.slice ca n cc))], .seg X5, .blk .fix [(sI t.p), (sI t.i), (sI t.l), (sI t.r)]]) = some ((.int .i64 dl), denH [.seg A, .blk .fix [(.raw (.slice a2 n c2))], .seg B, .seg X1, .seg X2, .seg X3, .seg X4, .blk .fix [(.raw (.slice ca n cc))], .seg X5, .blk .fix [(sI t.p), (sI t.i), (sI t.l), (sI t.r)]]))
 (.req true (.req true (.req true (.req true (.claim (opA (Plain.env tblK (gE 0)) (.bin .add (.const (.int .i64 t.p)) (.const (.int .i64 t.l))) [] (denH [.seg A, .blk .fix [(.raw (.slice a2 n c2))], .seg B, .seg X1, .seg X2, .seg X3, .seg X4, .blk .fix [(.raw (.slice ca n cc))], .seg X5, .blk .fix [(sI t.p), (sI t.i), (sI t.l), (sI t.r)]]) = some ((.int .i64 dl), denH [.seg A, .blk .fix [(.raw (.slice a2 n c2))], .seg B, .seg X1, .seg X2, .seg X3, .seg X4, .blk .fix [(.raw (.slice ca n cc))], .seg X5, .blk .fix [(sI t.p), (sI t.i), (sI t.l), (sI t.r)]]))
 (.claim (opA (Plain.env tblK (gE 0)) (.bin .neq (.const (.int .i64 dl)) (.const (.int .i64 dl))) [] (denH [.seg A, .blk .fix [(.raw (.slice a2 n c2))], .seg B, .seg X1, .seg X2, .seg X3, .seg X4, .blk .fix [(.raw (.slice ca n cc))], .seg X5, .blk .fix [(sI t.p), (sI t.i), (sI t.l), (sI t.r)]]) = some ((.bool false), denH [.seg A, .blk .fix [(.raw (.slice a2 n c2))], .seg B, .seg X1, .seg X2, .seg X3, .seg X4, .blk .fix [(.raw (.slice ca n cc))], .seg X5, .blk .fix [(sI t.p), (sI t.i), (sI t.l), (sI t.r)]]))
 (.req true (.req (decide (t.p = t.p)) (.req (decide (t.l = t.l)) (.req true (.claim (opA (Plain.env tblK (gE 0)) (.call 47 [(.const (denV (ofs [.seg A, .blk .fix [(.raw (.slice a2 n c2))], .seg B, .seg X1, .seg X2, .seg X3, .seg X4, .blk .fix [(.raw (.slice ca n cc))], .seg X5, .blk .fix [(sI t.p), (sI t.i), (sI t.l), (sI t.r)]]) (.ptr 1 0)))]) [] (denH [.seg A, .blk .fix [(.raw (.slice a2 n c2))], .seg B, .seg X1, .seg X2, .seg X3, .seg X4, .blk .fix [(.raw (.slice ca n cc))], .seg X5, .blk .fix [(sI t.p), (sI t.i), (sI t.l), (sI t.r)]]) = some ((.int .i64 h2), denH [.seg A, .blk .fix [(.raw (.slice a2 n c2))], .seg B, .seg X1, .seg X2, .seg X3, .seg X4, .blk .fix [(.raw (.slice ca n cc))], .seg X5, .blk .fix [(sI t.p), (sI t.i), (sI t.l), (sI t.r)]]))
 (.req true (.req true (.req true (.claim (opA (Plain.env tblK (gE 0)) (.bin .add (.const (.int .i64 w)) (.const (.int .i64 t.l))) [] (denH [.seg A, .blk .fix [(.raw (.slice a2 n c2))], .seg B, .seg X1, .seg X2, .seg X3, .seg X4, .blk .fix [(.raw (.slice ca n cc))], .seg X5, .blk .fix [(sI t.p), (sI t.i), (sI t.l), (sI t.r)]]) = some ((.int .i64 w1), denH [.seg A, .blk .fix [(.raw (.slice a2 n c2))], .seg B, .seg X1, .seg X2, .seg X3, .seg X4, .blk .fix [(.raw (.slice ca n cc))], .seg X5, .blk .fix [(sI t.p), (sI t.i), (sI t.l), (sI t.r)]]))
 (.req true (.req true (.claim (opA (Plain.env tblK (gE 0)) (.bin .sub (.const (.int .i64 w1)) (.const (.int .i64 t.r))) [] (denH [.seg A, .blk .fix [(.raw (.slice a2 n c2))], .seg B, .seg X1, .seg X2, .seg X3, .seg X4, .blk .fix [(.raw (.slice ca n cc))], .seg X5, .blk .fix [(sI t.p), (sI t.i), (sI t.l), (sI t.r)]]) = some ((.int .i64 w2), denH [.seg A, .blk .fix [(.raw (.slice a2 n c2))], .seg B, .seg X1, .seg X2, .seg X3, .seg X4, .blk .fix [(.raw (.slice ca n cc))], .seg X5, .blk .fix [(sI t.p), (sI t.i), (sI t.l), (sI t.r)]]))
 (.req true (.req true (.req (decide (t.l = t.l)) (.req (decide (t.r = t.r)) (.claim (opA (Plain.env tblK (gE 0)) (.call 48 [(.const (denV (ofs [.seg A, .blk .fix [(.raw (.slice a2 n c2))], .seg B, .seg X1, .seg X2, .seg X3, .seg X4, .blk .fix [(.raw (.slice ca n cc))], .seg X5, .blk .fix [(sI t.p), (sI t.i), (sI t.l), (sI t.r)]]) (.ptr 1 0)))]) [] (denH [.seg A, .blk .fix [(.raw (.slice a2 n c2))], .seg B, .seg X1, .seg X2, .seg X3, .seg X4, .blk .fix [(.raw (.slice ca n cc))], .seg X5, .blk .fix [(sI t.p), (sI t.i), (sI t.l), (sI t.r)]]) = some ((.int .i64 w2), denH [.seg A, .blk .fix [(.raw (.slice a2 n c2))], .seg B, .seg X1, .seg X2, .seg X3, .seg X4, .blk .fix [(.raw (.slice ca n cc))], .seg X5, .blk .fix [(sI t.p), (sI t.i), (sI t.l), (sI t.r)]]))
 (.claim (opA (Plain.env tblK (gE 0)) (.bin .neq (.const (.int .i64 w2)) (.const (.int .i64 w2))) [] [] = some ((.bool false), []))
 (.claim (opA (Plain.env tblK (gE 0)) (.bin .lss (.const (.int .i64 w2)) (.const (.int .i64 0))) [] [] = some ((.bool false), []))
 (.claim (opA (Plain.env tblK (gE 0)) (.call 58 [(.const (denV (ofs [.seg A, .blk .fix [(.raw (.slice a2 n c2))], .seg B, .seg X1, .seg X2, .seg X3, .seg X4, .blk .fix [(.raw (.slice ca n cc))], .seg X5, .blk .fix [(sI t.p), (sI t.i), (sI t.l), (sI t.r)]]) (.ptr 7 0)))]) [] (denH [.seg A, .blk .fix [(.raw (.slice a2 n c2))], .seg B, .seg X1, .seg X2, .seg X3, .seg X4, .blk .fix [(.raw (.slice ca n cc))], .seg X5, .blk .fix [(sI t.p), (sI t.i), (sI t.l), (sI t.r)]]) = some ((.slice da n dc), denH [.seg A, .blk .fix [(.raw (.slice a2 n c2))], .seg B, .seg X1, .seg X2, .seg X3, .seg X4, .blk .fix [(.raw (.slice ca n cc))], .seg X5, .blk .fix [(sI t.p), (sI t.i), (sI t.l), (sI t.r)], .seg X6]))
 (.claim (opA (Plain.env tblK (gE 0)) (.bin .neq (.const (.int .i64 (n : Int))) (.const (.int .i64 (n : Int)))) [] [] = some ((.bool false), []))
 (.claim (opA (Plain.env tblK (gE 0)) (.call 58 [(.const (denV (ofs [.seg A, .blk .fix [(.raw (.slice a2 n c2))], .seg B, .seg X1, .seg X2, .seg X3, .seg X4, .blk .fix [(.raw (.slice ca n cc))], .seg X5, .blk .fix [(sI t.p), (sI t.i), (sI t.l), (sI t.r)], .seg X6]) (.ptr 1 0)))]) [] (denH [.seg A, .blk .fix [(.raw (.slice a2 n c2))], .seg B, .seg X1, .seg X2, .seg X3, .seg X4, .blk .fix [(.raw (.slice ca n cc))], .seg X5, .blk .fix [(sI t.p), (sI t.i), (sI t.l), (sI t.r)], .seg X6]) = some ((.slice ea n ec), denH [.seg A, .blk .fix [(.raw (.slice a2 n c2))], .seg B, .seg X1, .seg X2, .seg X3, .seg X4, .blk .fix [(.raw (.slice ca n cc))], .seg X5, .blk .fix [(sI t.p), (sI t.i), (sI t.l), (sI t.r)], .seg X6, .seg X7]))
 (.claim (opA (Plain.env tblK (gE 0)) (.bin .neq (.const (.int .i64 (n : Int))) (.const (.int .i64 (n : Int)))) [] [] = some ((.bool false), []))
 (.claim (opA (Plain.env tblK (gE 0)) (.call 58 [(.const (denV (ofs [.seg A, .blk .fix [(.raw (.slice a2 n c2))], .seg B, .seg X1, .seg X2, .seg X3, .seg X4, .blk .fix [(.raw (.slice ca n cc))], .seg X5, .blk .fix [(sI t.p), (sI t.i), (sI t.l), (sI t.r)], .seg X6, .seg X7]) (.ptr 7 0)))]) [] (denH [.seg A, .blk .fix [(.raw (.slice a2 n c2))], .seg B, .seg X1, .seg X2, .seg X3, .seg X4, .blk .fix [(.raw (.slice ca n cc))], .seg X5, .blk .fix [(sI t.p), (sI t.i), (sI t.l), (sI t.r)], .seg X6, .seg X7]) = some ((.slice va n vc), denH [.seg A, .blk .fix [(.raw (.slice a2 n c2))], .seg B, .seg X1, .seg X2, .seg X3, .seg X4, .blk .fix [(.raw (.slice ca n cc))], .seg X5, .blk .fix [(sI t.p), (sI t.i), (sI t.l), (sI t.r)], .seg X6, .seg X7, .seg X8]))
 (.claim (Wp (Plain.env tblK (gE 0)) (inL [1, 2, 6, 8, 9, 10, 11, 17]) (.block 4 (.loop body14_4)) (denF [.seg A, .blk .fix [(.raw (.slice a2 n c2))], .seg B, .seg X1, .seg X2, .seg X3, .seg X4, .blk .fix [(.raw (.slice ca n cc))], .seg X5, .blk .fix [(sI t.p), (sI t.i), (sI t.l), (sI t.r)], .seg X6, .seg X7, .seg X8] (frS 234 [(1, (.raw (.slice ta nt ct))), (2, (sI id)), (6, (sB false)), (8, (.ptr 1 0)), (9, (sI h2)), (10, (sI w2)), (11, (sI i)), (14, (.raw (.slice wa n wc))), (17, (.raw (.slice ya m yc))), (133, (.raw (.slice va n vc))), (134, (sI (n : Int))), (135, (sI 0))])) (denH [.seg A, .blk .fix [(.raw (.slice a2 n c2))], .seg B, .seg X1, .seg X2, .seg X3, .seg X4, .blk .fix [(.raw (.slice ca n cc))], .seg X5, .blk .fix [(sI t.p), (sI t.i), (sI t.l), (sI t.r)], .seg X6, .seg X7, .seg X8]) fun e_ s_ h_ => e_ = .normal ∧ s_ = denF [.seg A, .blk .fix [(.raw (.slice a2 n c2))], .seg B, .seg X1, .seg X2, .seg X3, .seg X4, .blk .fix [(.raw (.slice ca n cc))], .seg X5, .blk .fix [(sI t.p), (sI t.i), (sI t.l), (sI t.r)], .seg X6, .seg X7, .seg X8, .seg X9] (frS 234 [(1, (.raw (.slice ta nt ct))), (2, (sI id)), (6, (sB false)), (8, (.ptr 1 0)), (9, (sI h2)), (10, (sI w2)), (11, (sI i)), (17, (.raw (.slice ya m yc)))]) ∧ h_ = denH [.seg A, .blk .fix [(.raw (.slice a2 n c2))], .seg B, .seg X1, .seg X2, .seg X3, .seg X4, .blk .fix [(.raw (.slice ca n cc))], .seg X5, .blk .fix [(sI t.p), (sI t.i), (sI t.l), (sI t.r)], .seg X6, .seg X7, .seg X8, .seg X9])
 (.claim (List.length Y3 = List.length X3) (.claim (opA (Plain.env tblK (gE 0)) (.append 7 56 (.const (.slice ya m yc)) (.const (denV (ofs [.seg A, .blk .fix [(.raw (.slice a2 n c2))], .seg B, .seg X1, .seg X2, .seg X3, .seg X4, .blk .fix [(.raw (.slice ca n cc))], .seg X5, .blk .fix [(sI t.p), (sI t.i), (sI t.l), (sI t.r)], .seg X6, .seg X7, .seg X8, .seg X9, .blk .fix [(sI 1073741824), (sI 0), (sI 0), (sI 0), (sI 0), (sI 0), (sB false)]]) (.sl 14 0 1 1)))) [] (denH [.seg A, .blk .fix [(.raw (.slice a2 n c2))], .seg B, .seg X1, .seg X2, .seg X3, .seg X4, .blk .fix [(.raw (.slice ca n cc))], .seg X5, .blk .fix [(sI t.p), (sI t.i), (sI t.l), (sI t.r)], .seg X6, .seg X7, .seg X8, .seg X9, .blk .fix [(sI 1073741824), (sI 0), (sI 0), (sI 0), (sI 0), (sI 0), (sB false)]]) = some ((.slice qa m1 qc), denH [.seg A, .blk .fix [(.raw (.slice a2 n c2))], .seg B, .seg X1, .seg X2, .seg Y3, .seg X4, .blk .fix [(.raw (.slice ca n cc))], .seg X5, .blk .fix [(sI t.p), (sI t.i), (sI t.l), (sI t.r)], .seg X6, .seg X7, .seg X8, .seg X9, .blk .fix [(sI 1073741824), (sI 0), (sI 0), (sI 0), (sI 0), (sI 0), (sB false)], .seg X10]))
 (.claim (opA (Plain.env tblK (gE 0)) (.call 46 [(.const (denV (ofs [.seg A, .blk .fix [(.raw (.slice a2 n c2))], .seg B, .seg X1, .seg X2, .seg Y3, .seg X4, .blk .fix [(.raw (.slice ca n cc))], .seg X5, .blk .fix [(sI t.p), (sI t.i), (sI t.l), (sI t.r)], .seg X6, .seg X7, .seg X8, .seg X9, .blk .fix [(sI 1073741824), (sI 0), (sI 0), (sI 0), (sI 0), (sI 0), (sB false)], .seg X10]) (.ptr 1 0))), (.const (.slice qa m1 qc))]) [] (denH [.seg A, .blk .fix [(.raw (.slice a2 n c2))], .seg B, .seg X1, .seg X2, .seg Y3, .seg X4, .blk .fix [(.raw (.slice ca n cc))], .seg X5, .blk .fix [(sI t.p), (sI t.i), (sI t.l), (sI t.r)], .seg X6, .seg X7, .seg X8, .seg X9, .blk .fix [(sI 1073741824), (sI 0), (sI 0), (sI 0), (sI 0), (sI 0), (sB false)], .seg X10]) = some ((.tuple ⟨[(.agg ⟨[(.int .i64 0), (.int .i64 0), (.int .i64 0), (.int .i64 0)]⟩), (.int .i64 3)]⟩), denH [.seg A, .blk .fix [(.raw (.slice a2 n c2))], .seg B, .seg X1, .seg X2, .seg Y3, .seg X4, .blk .fix [(.raw (.slice ca n cc))], .seg X5, .blk .fix [(sI t.p), (sI t.i), (sI t.l), (sI t.r)], .seg X6, .seg X7, .seg X8, .seg X9, .blk .fix [(sI 1073741824), (sI 0), (sI 0), (sI 0), (sI 0), (sI 0), (sB false)], .seg X10, .seg X11]))
 (.claim (opA (Plain.env tblK (gE 0)) (.call 47 [(.const (denV (ofs [.seg A, .blk .fix [(.raw (.slice a2 n c2))], .seg B, .seg X1, .seg X2, .seg Y3, .seg X4, .blk .fix [(.raw (.slice ca n cc))], .seg X5, .blk .fix [(sI t.p), (sI t.i), (sI t.l), (sI t.r)], .seg X6, .seg X7, .seg X8, .seg X9, .blk .fix [(sI 1073741824), (sI 0), (sI 0), (sI 0), (sI 0), (sI 0), (sB false)], .seg X10, .seg X11, .blk .fix [(sI 0), (sI 0), (sI 0), (sI 0)]]) (.ptr 1 0)))]) [] (denH [.seg A, .blk .fix [(.raw (.slice a2 n c2))], .seg B, .seg X1, .seg X2, .seg Y3, .seg X4, .blk .fix [(.raw (.slice ca n cc))], .seg X5, .blk .fix [(sI t.p), (sI t.i), (sI t.l), (sI t.r)], .seg X6, .seg X7, .seg X8, .seg X9, .blk .fix [(sI 1073741824), (sI 0), (sI 0), (sI 0), (sI 0), (sI 0), (sB false)], .seg X10, .seg X11, .blk .fix [(sI 0), (sI 0), (sI 0), (sI 0)]]) = some ((.int .i64 h2), denH [.seg A, .blk .fix [(.raw (.slice a2 n c2))], .seg B, .seg X1, .seg X2, .seg Y3, .seg X4, .blk .fix [(.raw (.slice ca n cc))], .seg X5, .blk .fix [(sI t.p), (sI t.i), (sI t.l), (sI t.r)], .seg X6, .seg X7, .seg X8, .seg X9, .blk .fix [(sI 1073741824), (sI 0), (sI 0), (sI 0), (sI 0), (sI 0), (sB false)], .seg X10, .seg X11, .blk .fix [(sI 0), (sI 0), (sI 0), (sI 0)]]))
 (.claim (opA (Plain.env tblK (gE 0)) (.bin .neq (.const (.int .i64 h2)) (.const (.int .i64 h2))) [] [] = some ((.bool false), []))
 (.ret .normal (frS 234 [(1, (.raw (.slice ta nt ct))), (2, (sI id)), (6, (sB false)), (8, (.ptr 1 0)), (9, (sI h2)), (10, (sI w2)), (11, (sI (IntKind.wrap .i64 (i + 1))))]) [.seg A, .blk .fix [(.raw (.slice a2 n c2))], .seg B, .seg X1, .seg X2, .seg Y3, .seg X4, .blk .fix [(.raw (.slice ca n cc))], .seg X5, .blk .fix [(sI t.p), (sI t.i), (sI t.l), (sI t.r)], .seg X6, .seg X7, .seg X8, .seg X9, .blk .fix [(sI 1073741824), (sI 0), (sI 0), (sI 0), (sI 0), (sI 0), (sB false)], .seg X10, .seg X11, .blk .fix [(sI 0), (sI 0), (sI 0), (sI 0)]])))))))))))))))))))))))))))))))))))))))))))))))))))
 (.ret (.exit 0) (frS 234 [(1, (.raw (.slice ta nt ct))), (2, (sI id)), (6, (sB false)), (8, (.ptr 1 0)), (9, (sI h)), (10, (sI w)), (11, (sI i))]) [.seg A, .blk .fix [(.raw (.slice a1 n c1))], .seg B]))) := by kernel_rfl
/-- Tapes of numbers, among the arguments. -/
def TapesOk (A : Heap) (tv : Value) (ts : List TN) : Prop := ∃ rows : List (List Value), RowsW 6 A tv rows ∧ rows.length = ts.length ∧ ∀ (j : Nat) (r : List Value) (k : TN), rows[j]? = some r → ts[j]? = some k → TNOk A k r
theorem TNOk.app {H : Heap} {k : TN} {vs : List Value} (h : TNOk H k vs) (X : Heap) : TNOk (H ++ X) k vs := by
  obtain ⟨u0, u1, u2, u3, u4, u5, e, h0, h1, h2, h3, h4, h5⟩ := h.ok
  exact ⟨u0, u1, u2, u3, u4, u5, e, h0.app X, h1.app X, h2.app X, h3.app X, h4.app X, h5.app X⟩
abbrev nb (v : Value) : Option Blk := some ⟨.fix, [v]⟩
abbrev yE : R7 := ⟨1073741824, 0, 0, 0, 0, 0, false⟩
set_option maxHeartbeats 8000000 in
theorem turn {A B : Heap} {a1 ta : Option Addr} {c1 ct i : Nat} {l : List L5} {ts : List TN} {id : Int} (hs : RowsW 5 (A ++ nb (.slice a1 l.length c1) :: B) (.slice a1 l.length c1) (l.map e5)) (hwf : WF l) (hT : TapesOk A (.slice ta ts.length ct) ts) (hi : i < ts.length) (hi8 : i < 8) (K : Post2)
    (kk : ∀ (B2 : Heap) (a2 : Option Addr) (c2 : Nat) (l2 : List L5), (∃ Z, B2 = B ++ Z) → l2.length = l.length → WF l2 → RowsW 5 (A ++ nb (.slice a2 l.length c2) :: B2) (.slice a2 l.length c2) (l2.map e5) →
      K .normal (denF [.seg A, .blk .fix [(.raw (.slice a2 l.length c2))], .seg B2] (frS 234 [(1, (.raw (.slice ta ts.length ct))), (2, (sI id)), (6, (sB false)), (8, (.ptr 1 0)), (9, (sI (S L5.b l2))), (10, (sI (S L5.c l2))), (11, (sI ((i : Int) + 1)))])) (denH [.seg A, .blk .fix [(.raw (.slice a2 l.length c2))], .seg B2])) :
    Wp (Plain.env tblK (gE 0)) (fun i => exL i body14_0 || inL [2, 6, 8] i) body14_0 (denF [.seg A, .blk .fix [(.raw (.slice a1 l.length c1))], .seg B] (frS 234 [(1, (.raw (.slice ta ts.length ct))), (2, (sI id)), (6, (sB false)), (8, (.ptr 1 0)), (9, (sI (S L5.b l))), (10, (sI (S L5.c l))), (11, (sI i))])) (denH [.seg A, .blk .fix [(.raw (.slice a1 l.length c1))], .seg B]) K := by
  have hm := hwf.len
  have sA : ∀ X : Heap, denH [.seg X] = X := fun X => by simp [denH, denL, It.den]
  -- the loans, copied
  obtain ⟨wa, wc, X1, q1, g1⟩ := c58 (I1 := [.seg A]) (I2 := [.seg B]) (B := B) rfl (fun f => by simp [denL, It.den]) (by rw [sA]; exact hs) (by omega)
  rw [sA] at q1
  have hw : RowsW 5 (denH [.seg A, .blk .fix [(.raw (.slice a1 l.length c1))], .seg B, .seg X1]) (.slice wa l.length wc) (l.map e5) := by
    have := q1.rows (by decide) []
    simpa [denH, denL, It.den, den0] using this
  obtain ⟨e, t1, h1, ⟨X2, na, la, nc, lc, rfl, rfl, rfl, hn2, hl2⟩, w2⟩ := (loopU (tv := .slice ta ts.length ct) (id := id) (h := S L5.b l) (w := S L5.c l) (i := (i : Int)) hw (by omega)).exact
  -- the tape's numbers
  obtain ⟨rows, hr, hrl, hk⟩ := hT
  obtain ⟨r, hri⟩ := getE (show i < rows.length by omega)
  obtain ⟨k, hki⟩ := getE hi
  have hkr := hk i r k hri hki
  obtain ⟨u0, u1, u2, u3, u4, u5, rfl, _⟩ := hkr.ok
  rw [← hrl] at hr
  obtain ⟨b1, o1, r1⟩ := hr.row hri
  rw [hrl] at hr r1
  -- the tape
  have eI : denH [.seg A, .blk .fix [(.raw (.slice a1 l.length c1))], .seg B, .seg X1, .seg X2] = A ++ (nb (.slice a1 l.length c1) :: (B ++ (X1 ++ X2))) := by simp [denH, denL, It.den, den0]
  have hn3 : RowsW 2 (denH [.seg A, .blk .fix [(.raw (.slice a1 l.length c1))], .seg B, .seg X1, .seg X2]) (.slice na l.length nc) ((nowOf l).map e2) := by
    have := hn2.s.rows (by decide) []
    simpa [denH, denL, It.den, den0] using this
  have hl3 : RowsW 1 (denH [.seg A, .blk .fix [(.raw (.slice a1 l.length c1))], .seg B, .seg X1, .seg X2]) (.slice la l.length lc) ((lostOf l).map ir) := by
    have := hl2.s.rows (by decide) []
    simpa [denH, denL, It.den, den0] using this
  obtain ⟨ya, m, yc, X3, r52, hy⟩ := OF.run52 (I := [.seg A, .blk .fix [(.raw (.slice a1 l.length c1))], .seg B, .seg X1, .seg X2]) rfl (k := k) (by rw [eI]; exact TNOk.app hkr _) hn3 hl3 (by simp [nowOf, lostOf]) (fun x hx => by
    obtain ⟨z, hz, rfl⟩ := List.mem_map.1 hx
    have := hwf.ok z hz
    exact ⟨this.b0, by have := this.b1; show z.b ≤ _; omega⟩) (fun z hz => by
    obtain ⟨x, hx, rfl⟩ := List.mem_map.1 hz
    have := (hwf.ok x hx).c1
    omega) (by simp [nowOf]; omega)
  obtain ⟨ys, eys⟩ : ∃ ys, ys = ofF k (lostOf l) (nowOf l) := ⟨_, rfl⟩
  rw [← eys] at hy
  have hys : ys.length ≤ 10 := by
    have := OF.ofG_len k (lostOf l) (nowOf l) 0
    have e2 : (nowOf l).length = l.length := by simp [nowOf]
    rw [eys]; show (OF.ofG k (lostOf l) 0 (nowOf l)).length ≤ 10
    omega
  have em : m = ys.length := by
    obtain ⟨_, _, q⟩ := hy.slc
    simp only [Value.slice.injEq, List.length_map] at q
    exact q.2.1
  subst em
  -- the pool, copied
  obtain ⟨B5, eB5⟩ : ∃ B5, B5 = B ++ (X1 ++ (X2 ++ X3)) := ⟨_, rfl⟩
  have hs5 : RowsW 5 (denH [.seg A] ++ nb (.slice a1 l.length c1) :: B5) (.slice a1 l.length c1) (l.map e5) := by
    have := hs.app (X1 ++ (X2 ++ X3)); rw [sA, eB5]; simpa using this
  obtain ⟨ca, cc, X4, q59, g59⟩ := c59 (I1 := [.seg A]) (I2 := [.seg B, .seg X1, .seg X2, .seg X3]) rfl (fun f => by rw [eB5]; simp [denL, It.den]) hs5 (by omega)
  rw [sA] at q59
  have p59 : denV (ofs [.seg A, .blk .fix [(.raw (.slice a1 l.length c1))], .seg B, .seg X1, .seg X2, .seg X3, .seg X4, .blk .fix [(.raw (.slice ca l.length cc))]]) (.ptr 7 0) = .pointer (some ⟨(denH [.seg A] ++ nb (.slice a1 l.length c1) :: (B5 ++ X4)).length, 0, none⟩) := by
    have := ptr_at (I1 := [.seg A, .blk .fix [(.raw (.slice a1 l.length c1))], .seg B, .seg X1, .seg X2, .seg X3, .seg X4]) (I2 := []) (.blk .fix [(.raw (.slice ca l.length cc))])
    refine this.trans ?_
    rw [eB5]; simp [denH, denL, It.den]
  -- the tape, applied
  obtain ⟨B6, eB6⟩ : ∃ B6, B6 = B5 ++ (X4 ++ [nb (.slice ca l.length cc)]) := ⟨_, rfl⟩
  have hs6 : RowsW 5 (denH [.seg A] ++ nb (.slice a1 l.length c1) :: B6) (.slice a1 l.length c1) (l.map e5) := by
    have := hs5.app (X4 ++ [nb (.slice ca l.length cc)]); rw [eB6]; simpa using this
  have hy6 : RowsW 7 (denH [.seg A] ++ nb (.slice a1 l.length c1) :: B6) (.slice ya ys.length yc) (ys.map e7) := by
    have := hy.rows (by decide) (X4 ++ [nb (.slice ca l.length cc)])
    rw [sA, eB6, eB5]
    rw [eI] at this
    simpa using this
  obtain ⟨X5, h46⟩ := c46 (I1 := [.seg A]) (I2 := [.seg B, .seg X1, .seg X2, .seg X3, .seg X4, .blk .fix [(.raw (.slice ca l.length cc))]]) rfl (fun f => by rw [eB6, eB5]; simp [denL, It.den, den0]) hs6 hy6 (by omega) (by omega)
  obtain ⟨l', t, hap, hwf', hrun⟩ := keeps (k := k) hwf
  rw [← eys] at hap hrun
  rw [hap] at h46
  obtain ⟨a2, c2, _, hs2, g46⟩ := h46
  rw [sA] at hs2
  have hl' : l'.length = l.length := hrun.len
  have hs2 : LsS 5 (A ++ nb (.slice a2 l.length c2) :: B6) X5 (.slice a2 l.length c2) (l'.map e5) := hs2
  obtain ⟨sb1, sb2, sb3⟩ := hwf.sb
  obtain ⟨sb1', sb2', sb3'⟩ := hwf'.sb
  obtain ⟨sc1, sc2, sc3⟩ := hwf.sc
  obtain ⟨sc1', sc2', sc3'⟩ := hwf'.sc
  have hrb := hrun.b
  have hrc := hrun.c
  have hrp := hrun.p0
  have hrl0 := hrun.l0
  have hrr := hrun.r0
  simp only [a0, Int.sub_zero, Int.add_zero] at hrb hrc
  -- sums
  obtain ⟨B7, eB7⟩ : ∃ B7, B7 = B6 ++ (X5 ++ [some ⟨.fix, e4 t⟩]) := ⟨_, rfl⟩
  have hs7 : RowsW 5 (denH [.seg A] ++ nb (.slice a2 l.length c2) :: B7) (.slice a2 l.length c2) (l'.map e5) := by
    have := hs2.rows (by decide) [some ⟨.fix, e4 t⟩]
    rw [sA, eB7]; simpa using this
  have I7 : ∀ f, denL f [.seg B, .seg X1, .seg X2, .seg X3, .seg X4, .blk .fix [(.raw (.slice ca l.length cc))], .seg X5, .blk .fix [(sI t.p), (sI t.i), (sI t.l), (sI t.r)]] = B7 := fun f => by rw [eB7, eB6, eB5]; simp [denL, It.den, den0, e4]
  have g47 := c47 (I1 := [.seg A]) (I2 := [.seg B, .seg X1, .seg X2, .seg X3, .seg X4, .blk .fix [(.raw (.slice ca l.length cc))], .seg X5, .blk .fix [(sI t.p), (sI t.i), (sI t.l), (sI t.r)]]) rfl I7 hs7 (by omega) sb1'
  have g48 := c48 (I1 := [.seg A]) (I2 := [.seg B, .seg X1, .seg X2, .seg X3, .seg X4, .blk .fix [(.raw (.slice ca l.length cc))], .seg X5, .blk .fix [(sI t.p), (sI t.i), (sI t.l), (sI t.r)]]) rfl I7 hs7 (by omega) sc1'
  -- the copy's loans
  have hc9 : ∀ R : Heap, RowsW 5 (denH [.seg A, .blk .fix [(.raw (.slice a2 l.length c2))], .seg B, .seg X1, .seg X2, .seg X3, .seg X4] ++ nb (.slice ca l.length cc) :: R) (.slice ca l.length cc) (l.map e5) := fun R => by
    have h0 : LsS 5 (A ++ nb (.slice a2 l.length c2) :: B5) X4 (.slice ca l.length cc) (l.map e5) := q59.base (by simp)
    have := h0.rows (by decide) (nb (.slice ca l.length cc) :: R)
    rw [eB5] at this
    simpa [denH, denL, It.den, den0] using this
  obtain ⟨da, dc, X6, _, g6⟩ := c58 (I1 := [.seg A, .blk .fix [(.raw (.slice a2 l.length c2))], .seg B, .seg X1, .seg X2, .seg X3, .seg X4]) (I2 := [.seg X5, .blk .fix [(sI t.p), (sI t.i), (sI t.l), (sI t.r)]]) (B := X5 ++ [some ⟨.fix, e4 t⟩]) rfl (fun f => by simp [denL, It.den, den0, e4]) (hc9 _) (by omega)
  have hs8 : RowsW 5 (denH [.seg A] ++ nb (.slice a2 l.length c2) :: (B7 ++ X6)) (.slice a2 l.length c2) (l'.map e5) := by
    have := hs7.app X6; simpa using this
  obtain ⟨ea, ec, X7, _, g7⟩ := c58 (I1 := [.seg A]) (I2 := [.seg B, .seg X1, .seg X2, .seg X3, .seg X4, .blk .fix [(.raw (.slice ca l.length cc))], .seg X5, .blk .fix [(sI t.p), (sI t.i), (sI t.l), (sI t.r)], .seg X6]) rfl (fun f => by rw [eB7, eB6, eB5]; simp [denL, It.den, den0, e4]) hs8 (by omega)
  rw [hl'] at g7
  obtain ⟨va, vc, X8, q8, g8⟩ := c58 (I1 := [.seg A, .blk .fix [(.raw (.slice a2 l.length c2))], .seg B, .seg X1, .seg X2, .seg X3, .seg X4]) (I2 := [.seg X5, .blk .fix [(sI t.p), (sI t.i), (sI t.l), (sI t.r)], .seg X6, .seg X7]) (B := X5 ++ (some ⟨.fix, e4 t⟩ :: (X6 ++ X7))) rfl (fun f => by simp [denL, It.den, den0, e4]) (hc9 _) (by omega)
  -- one by one
  obtain ⟨B10, eB10⟩ : ∃ B10, B10 = B7 ++ (X6 ++ (X7 ++ X8)) := ⟨_, rfl⟩
  have v1 : RowsW 5 (A ++ nb (.slice a2 l.length c2) :: B10) (.slice a2 l.length c2) (l'.map e5) := by
    have := hs7.app (X6 ++ (X7 ++ X8)); rw [sA] at this; rw [eB10]; simpa using this
  have v2 : RowsW 5 (A ++ nb (.slice a2 l.length c2) :: B10) (.slice wa l.length wc) (l.map e5) := by
    have h0 : LsS 5 (A ++ nb (.slice a2 l.length c2) :: B) X1 (.slice wa l.length wc) (l.map e5) := q1.base (by simp)
    have := h0.rows (by decide) (X2 ++ (X3 ++ (X4 ++ (nb (.slice ca l.length cc) :: (X5 ++ (some ⟨.fix, e4 t⟩ :: (X6 ++ (X7 ++ X8))))))))
    rw [eB10, eB7, eB6, eB5]; simpa using this
  have v3 : RowsW 5 (A ++ nb (.slice a2 l.length c2) :: B10) (.slice va l.length vc) (l.map e5) := by
    have := q8.rows (by decide) []
    rw [eB10, eB7, eB6, eB5]; simpa [denH, denL, It.den, den0] using this
  have hyB : ∀ Z : Heap, LsS 7 (A ++ nb (.slice a2 l.length c2) :: (B ++ (X1 ++ X2))) X3 (.slice ya ys.length yc) (ys.map e7) := fun _ => hy.base (by rw [eI]; simp)
  have v4 : RowsW 7 (A ++ nb (.slice a2 l.length c2) :: B10) (.slice ya ys.length yc) (ys.map e7) := by
    have := (hyB []).rows (by decide) (X4 ++ (nb (.slice ca l.length cc) :: (X5 ++ (some ⟨.fix, e4 t⟩ :: (X6 ++ (X7 ++ X8))))))
    rw [eB10, eB7, eB6, eB5]; simpa using this
  obtain ⟨e, t1, h1, ⟨X9, rfl, rfl, rfl⟩, wV⟩ := (loopV (tv := .slice ta ts.length ct) (id := id) (h := S L5.b l') (w := S L5.c l') (i := (i : Int)) v1 v2 v3 v4 (by omega) hl' (by omega) (fun j x h1 h2 => hrun.same j x h1 h2)).exact
  -- a line of no loan
  have eI2 : denH [.seg A, .blk .fix [(.raw (.slice a2 l.length c2))], .seg B, .seg X1, .seg X2] = A ++ nb (.slice a2 l.length c2) :: (B ++ (X1 ++ X2)) := by simp [denH, denL, It.den, den0]
  obtain ⟨qa, qc, Y3, X10, p1, p2, p3⟩ := appRow (I := [.seg A, .blk .fix [(.raw (.slice a2 l.length c2))], .seg B, .seg X1, .seg X2]) (J := X3) (R := [.seg X4, .blk .fix [(.raw (.slice ca l.length cc))], .seg X5, .blk .fix [(sI t.p), (sI t.i), (sI t.l), (sI t.r)], .seg X6, .seg X7, .seg X8, .seg X9]) (R0 := X4 ++ (nb (.slice ca l.length cc) :: (X5 ++ (some ⟨.fix, e4 t⟩ :: (X6 ++ (X7 ++ (X8 ++ X9))))))) (w := 7) (eby := 56) (row := e7 yE) (cs := [(sI 1073741824), (sI 0), (sI 0), (sI 0), (sI 0), (sI 0), (sB false)]) rfl (fun f => by simp [denL, It.den, den0, e4]) (by rw [eI2]; exact hyB []) (fun _ => rfl) rfl (by decide) (by simp; omega) (by simp; omega)
  simp only [List.length_map] at p2 p3
  obtain ⟨B11, eB11⟩ : ∃ B11, B11 = B ++ (X1 ++ (X2 ++ (Y3 ++ (X4 ++ (nb (.slice ca l.length cc) :: (X5 ++ (some ⟨.fix, e4 t⟩ :: (X6 ++ (X7 ++ (X8 ++ (X9 ++ (some ⟨.fix, e7 yE⟩ :: X10)))))))))))) := ⟨_, rfl⟩
  have pe : ∀ R : Heap, RowsW 5 (A ++ nb (.slice a2 l.length c2) :: (B ++ (X1 ++ (X2 ++ (Y3 ++ (X4 ++ (nb (.slice ca l.length cc) :: (X5 ++ R)))))))) (.slice a2 l.length c2) (l'.map e5) := fun R => by
    have h0 : LsS 5 (A ++ nb (.slice a2 l.length c2) :: (B ++ (X1 ++ (X2 ++ (Y3 ++ (X4 ++ [nb (.slice ca l.length cc)])))))) X5 (.slice a2 l.length c2) (l'.map e5) := hs2.base (by rw [eB6, eB5]; simp [p1])
    have := h0.rows (by decide) R
    simpa using this
  have hs11 : RowsW 5 (denH [.seg A] ++ nb (.slice a2 l.length c2) :: B11) (.slice a2 l.length c2) (l'.map e5) := by
    rw [sA, eB11]; exact pe _
  have hy11 : RowsW 7 (denH [.seg A] ++ nb (.slice a2 l.length c2) :: B11) (.slice qa (ys.length + 1) qc) ((ys ++ [yE]).map e7) := by
    have := p3.rows (by decide) []
    rw [eI2] at this
    rw [sA, eB11, List.map_append]
    simpa using this
  obtain ⟨X11, h11⟩ := c46 (I1 := [.seg A]) (I2 := [.seg B, .seg X1, .seg X2, .seg Y3, .seg X4, .blk .fix [(.raw (.slice ca l.length cc))], .seg X5, .blk .fix [(sI t.p), (sI t.i), (sI t.l), (sI t.r)], .seg X6, .seg X7, .seg X8, .seg X9, P.lB yE, .seg X10]) rfl (fun f => by rw [eB11]; simp [denL, It.den, den0, e4, e7]) hs11 hy11 (by omega) (by simp; omega)
  rw [beyond hwf' ys] at h11
  have hs12 : RowsW 5 (denH [.seg A] ++ nb (.slice a2 l.length c2) :: (B11 ++ (X11 ++ [some ⟨.fix, e4 a0⟩]))) (.slice a2 l.length c2) (l'.map e5) := by
    have := hs11.app (X11 ++ [some ⟨.fix, e4 a0⟩]); simpa using this
  have g12 := c47 (I1 := [.seg A]) (I2 := [.seg B, .seg X1, .seg X2, .seg Y3, .seg X4, .blk .fix [(.raw (.slice ca l.length cc))], .seg X5, .blk .fix [(sI t.p), (sI t.i), (sI t.l), (sI t.r)], .seg X6, .seg X7, .seg X8, .seg X9, P.lB yE, .seg X10, .seg X11, P.z4]) rfl (fun f => by rw [eB11]; simp [denL, It.den, den0, e4, e7, a0]) hs12 (by omega) sb1'
  have wV' : Wp (Plain.env tblK (gE 0)) (inL [1, 2, 6, 8, 9, 10, 11, 17]) (.block 4 (.loop body14_4)) (denF [.seg A, .blk .fix [(.raw (.slice a2 l.length c2))], .seg B, .seg X1, .seg X2, .seg X3, .seg X4, .blk .fix [(.raw (.slice ca l.length cc))], .seg X5, .blk .fix [(sI t.p), (sI t.i), (sI t.l), (sI t.r)], .seg X6, .seg X7, .seg X8] (frS 234 [(1, (.raw (.slice ta ts.length ct))), (2, (sI id)), (6, (sB false)), (8, (.ptr 1 0)), (9, (sI (S L5.b l'))), (10, (sI (S L5.c l'))), (11, (sI i)), (14, (.raw (.slice wa l.length wc))), (17, (.raw (.slice ya ys.length yc))), (133, (.raw (.slice va l.length vc))), (134, (sI (l.length : Int))), (135, (sI 0))])) (denH [.seg A, .blk .fix [(.raw (.slice a2 l.length c2))], .seg B, .seg X1, .seg X2, .seg X3, .seg X4, .blk .fix [(.raw (.slice ca l.length cc))], .seg X5, .blk .fix [(sI t.p), (sI t.i), (sI t.l), (sI t.r)], .seg X6, .seg X7, .seg X8]) fun e_ s_ h_ => e_ = .normal ∧ s_ = denF [.seg A, .blk .fix [(.raw (.slice a2 l.length c2))], .seg B, .seg X1, .seg X2, .seg X3, .seg X4, .blk .fix [(.raw (.slice ca l.length cc))], .seg X5, .blk .fix [(sI t.p), (sI t.i), (sI t.l), (sI t.r)], .seg X6, .seg X7, .seg X8, .seg X9] (frS 234 [(1, (.raw (.slice ta ts.length ct))), (2, (sI id)), (6, (sB false)), (8, (.ptr 1 0)), (9, (sI (S L5.b l'))), (10, (sI (S L5.c l'))), (11, (sI i)), (17, (.raw (.slice ya ys.length yc)))]) ∧ h_ = denH [.seg A, .blk .fix [(.raw (.slice a2 l.length c2))], .seg B, .seg X1, .seg X2, .seg X3, .seg X4, .blk .fix [(.raw (.slice ca l.length cc))], .seg X5, .blk .fix [(sI t.p), (sI t.i), (sI t.l), (sI t.r)], .seg X6, .seg X7, .seg X8, .seg X9] := by
    have z1 : denH [.seg A, .blk .fix [(.raw (.slice a2 l.length c2))], .seg B, .seg X1, .seg X2, .seg X3, .seg X4, .blk .fix [(.raw (.slice ca l.length cc))], .seg X5, .blk .fix [(sI t.p), (sI t.i), (sI t.l), (sI t.r)], .seg X6, .seg X7, .seg X8] = denH [.seg A, .blk .fix [(.raw (.slice a2 l.length c2))], .seg B10] := by rw [eB10, eB7, eB6, eB5]; simp [denH, denL, It.den, den0, e4]
    have z2 : denF [.seg A, .blk .fix [(.raw (.slice a2 l.length c2))], .seg B, .seg X1, .seg X2, .seg X3, .seg X4, .blk .fix [(.raw (.slice ca l.length cc))], .seg X5, .blk .fix [(sI t.p), (sI t.i), (sI t.l), (sI t.r)], .seg X6, .seg X7, .seg X8] (frS 234 [(1, (.raw (.slice ta ts.length ct))), (2, (sI id)), (6, (sB false)), (8, (.ptr 1 0)), (9, (sI (S L5.b l'))), (10, (sI (S L5.c l'))), (11, (sI i)), (14, (.raw (.slice wa l.length wc))), (17, (.raw (.slice ya ys.length yc))), (133, (.raw (.slice va l.length vc))), (134, (sI (l.length : Int))), (135, (sI 0))]) = denF [.seg A, .blk .fix [(.raw (.slice a2 l.length c2))], .seg B10] (frS 234 [(1, (.raw (.slice ta ts.length ct))), (2, (sI id)), (6, (sB false)), (8, (.ptr 1 0)), (9, (sI (S L5.b l'))), (10, (sI (S L5.c l'))), (11, (sI i)), (14, (.raw (.slice wa l.length wc))), (17, (.raw (.slice ya ys.length yc))), (133, (.raw (.slice va l.length vc))), (134, (sI (l.length : Int))), (135, (sI 0))]) := by show denF _ _ = denF _ _; kernel_rfl
    rw [z1, z2]
    refine wV.mono fun e s hh ⟨y1, y2, y3⟩ => ⟨y1, y2.trans ?_, y3.trans ?_⟩
    · show denF _ _ = denF _ _; kernel_rfl
    · rw [eB10, eB7, eB6, eB5]; simp [denH, denL, It.den, den0, e4]
  have tr := tree14t ta wa na la ya ca da ea va qa a1 a2 ts.length ct l.length wc nc lc ys.length yc cc dc ec vc (ys.length + 1) qc c1 c2 u0 u1 u2 u3 u4 u5 id (S L5.b l) (S L5.c l) i (S L5.b l') (S L5.b l - S L5.b l') (S L5.c l + t.l) (S L5.c l') t b1 o1 A B X1 X2 X3 Y3 X4 X5 X6 X7 X8 X9 X10 X11
  refine Wp.tree (cE_ok 0) tr ⟨rfl, rfl⟩ ⟨bif_tt _, fun _ => ⟨g1, w2, r1.ptr _ _, r1.all _, call (f := 52) (args := [_, _, _]) rfl r52, ?_, g46, rfl, rfl, rfl, rfl, rfl, g47, sub_h _ _ _ _ _ (by rw [wrap64 (by omega) (by omega)]), rfl, rfl, rfl, rfl, add_h _ _ _ _ _ (by rw [wrap64 (by omega) (by omega)]; omega), ne_h _ _ _, rfl, by simp, by simp, rfl, g47, rfl, rfl, rfl, add_h _ _ _ _ _ (by rw [wrap64 (by omega) (by omega)]), rfl, rfl, sub_h _ _ _ _ _ (by rw [wrap64 (by omega) (by omega)]; omega), rfl, rfl, by simp, by simp, g48, ne_h _ _ _, lss_h _ _ _ _ (by omega), g6, ne_h _ _ _, g7, ne_h _ _ _, g8, wV', p1, p2 _, h11, g12, ne_h _ _ _, ?_⟩, fun q => by simp [hi] at q; omega⟩
  · rw [p59]; exact g59
  · have fin := kk (B11 ++ (X11 ++ [some ⟨.fix, e4 a0⟩])) a2 c2 l' ⟨_, by rw [eB11, List.append_assoc]⟩ hl' hwf' (by rw [sA] at hs12; exact hs12)
    rw [wrap64 (x := (i : Int) + 1) (by omega) (by omega)]
    have z1 : denH [.seg A, .blk .fix [(.raw (.slice a2 l.length c2))], .seg B, .seg X1, .seg X2, .seg Y3, .seg X4, .blk .fix [(.raw (.slice ca l.length cc))], .seg X5, .blk .fix [(sI t.p), (sI t.i), (sI t.l), (sI t.r)], .seg X6, .seg X7, .seg X8, .seg X9, P.lB yE, .seg X10, .seg X11, P.z4] = denH [.seg A, .blk .fix [(.raw (.slice a2 l.length c2))], .seg (B11 ++ (X11 ++ [some ⟨.fix, e4 a0⟩]))] := by rw [eB11]; simp [denH, denL, It.den, den0, e4, e7, a0]
    have z2 : denF [.seg A, .blk .fix [(.raw (.slice a2 l.length c2))], .seg B, .seg X1, .seg X2, .seg Y3, .seg X4, .blk .fix [(.raw (.slice ca l.length cc))], .seg X5, .blk .fix [(sI t.p), (sI t.i), (sI t.l), (sI t.r)], .seg X6, .seg X7, .seg X8, .seg X9, P.lB yE, .seg X10, .seg X11, P.z4] (frS 234 [(1, (.raw (.slice ta ts.length ct))), (2, (sI id)), (6, (sB false)), (8, (.ptr 1 0)), (9, (sI (S L5.b l'))), (10, (sI (S L5.c l'))), (11, (sI ((i : Int) + 1)))]) = denF [.seg A, .blk .fix [(.raw (.slice a2 l.length c2))], .seg (B11 ++ (X11 ++ [some ⟨.fix, e4 a0⟩]))] (frS 234 [(1, (.raw (.slice ta ts.length ct))), (2, (sI id)), (6, (sB false)), (8, (.ptr 1 0)), (9, (sI (S L5.b l'))), (10, (sI (S L5.c l'))), (11, (sI ((i : Int) + 1)))]) := by show denF _ _ = denF _ _; kernel_rfl
    show K .normal (denF [.seg A, .blk .fix [(.raw (.slice a2 l.length c2))], .seg B, .seg X1, .seg X2, .seg Y3, .seg X4, .blk .fix [(.raw (.slice ca l.length cc))], .seg X5, .blk .fix [(sI t.p), (sI t.i), (sI t.l), (sI t.r)], .seg X6, .seg X7, .seg X8, .seg X9, P.lB yE, .seg X10, .seg X11, P.z4] (frS 234 [(1, (.raw (.slice ta ts.length ct))), (2, (sI id)), (6, (sB false)), (8, (.ptr 1 0)), (9, (sI (S L5.b l'))), (10, (sI (S L5.c l'))), (11, (sI ((i : Int) + 1)))])) (denH [.seg A, .blk .fix [(.raw (.slice a2 l.length c2))], .seg B, .seg X1, .seg X2, .seg Y3, .seg X4, .blk .fix [(.raw (.slice ca l.length cc))], .seg X5, .blk .fix [(sI t.p), (sI t.i), (sI t.l), (sI t.r)], .seg X6, .seg X7, .seg X8, .seg X9, P.lB yE, .seg X10, .seg X11, P.z4])
    rw [z1, z2]
    exact fin
end KP
end PO
end Go.Proofs.Ytgdojnamjkhknaa
