/-
  keep: a deal of numbers: its loops.
-/
import Derived.Test.YtgdojnamjkhknaaK1
namespace Go.Proofs.Ytgdojnamjkhknaa
open Go.Am
set_option linter.all false
set_option maxRecDepth 100000
--abbr 20 kB
--abbr 18 dB
namespace K
open D.A (tupIB pre1 pre1_u anyL)
open D (drop_at)
/-- The numbers' block. -/
abbrev kB (k0 k1 k2 k3 k4 k5 k6 k7 k8 k9 k10 k11 k12 : Int) (u0 u1 u2 u3 u4 u5 u6 : SV) : It := .blk .fix [sI k0, sI k1, sI k2, sI k3, sI k4, sI k5, sI k6, sI k7, sI k8, sI k9, sI k10, sI k11, sI k12, u0, u1, u2, u3, u4, u5, u6]
/-- A deal's block. -/
abbrev dB (d0 d1 d2 : Int) (L N : SV) (d3 d4 d5 d6 d7 d8 d9 d10 d11 d12 : Int) (S0 S1 S2 : SV) : It := .blk .fix [sI d0, sI d1, sI d2, L, N, sI d3, sI d4, sI d5, sI d6, sI d7, sI d8, sI d9, sI d10, sI d11, sI d12, S0, S1, S2]
namespace E1
noncomputable def gK : Env := fun f => match f with
  | 76 => smry pre76 fun x h => (.int .i64 (pk x.1 x.2), h)
  | 49 => runE (Plain.env tblK (E0.gE 0)) E0.il49
  | _ => fun _ _ => none
theorem gK_ok : EnvOk Try.prog gK := fun f => by
  unfold gK
  split
  · exact sim76
  · exact sum49
  · exact fun args h v h' e => by cases e
theorem gK_q : QuietEnv qt gK := fun f args h v h' hf e => by cases hf
noncomputable abbrev gE (k : Nat) : Env := inE tblK [] k gK
noncomputable abbrev cE (k : Nat) : CallS := callS tblK [] gK 100 k
theorem gE_q (k : Nat) : QuietEnv qt (Plain.env tblK (gE k)) := Plain.quiet (inE_quiet gK_q (fun f F h => by cases h) k)
theorem gE_ok (k : Nat) : EnvOk Try.prog (Plain.env tblK (gE k)) := Plain.ok tblK_ok (inE_ok (qt := qt) mixed tblK_ok .nil (fun f F h => by cases h) gK_ok gK_q k)
theorem cE_ok (k : Nat) : CallOk (Plain.env tblK (gE k)) (cE k) := callS_ok k
/-- (cascade/cascadekeep.Deal).Deal -/
def il41 : FnIL := ⟨192, [.cell 2 (some 18)],
 .seq (.reg [
    ⟨(some 1), none, .box (.tmp 0)⟩,
    ⟨(some 2), none, .alloc [(.int .i64 0), (.int .i64 0), (.int .i64 0), (.slice none 0 0), (.slice none 0 0), (.int .i64 0), (.int .i64 0), (.int .i64 0), (.int .i64 0), (.int .i64 0), (.int .i64 0), (.int .i64 0), (.int .i64 0), (.int .i64 0), (.int .i64 0), (.slice none 0 0), (.slice none 0 0), (.slice none 0 0)]⟩])
 (.seq (.dreg [
    ⟨(some 16), none, .fadr 0 (.tmp 1)⟩,
    ⟨(some 17), none, .load (.tmp 16) none⟩,
    ⟨(some 18), none, .call 30 [(.tmp 17), (.const (.int .i64 1990)), (.const (.int .i64 2040))]⟩,
    ⟨(some 19), none, .fadr 1 (.tmp 1)⟩,
    ⟨(some 20), none, .load (.tmp 19) none⟩,
    ⟨(some 21), none, .call 30 [(.tmp 20), (.const (.int .i64 1)), (.const (.int .i64 12))]⟩,
    ⟨(some 22), none, .fadr 2 (.tmp 1)⟩,
    ⟨(some 23), none, .load (.tmp 22) none⟩,
    ⟨(some 24), none, .call 30 [(.tmp 23), (.const (.int .i64 0)), (.const (.int .i64 2))]⟩,
    ⟨(some 25), none, .fadr 3 (.tmp 1)⟩,
    ⟨(some 26), none, .load (.tmp 25) none⟩,
    ⟨(some 27), none, .call 30 [(.tmp 26), (.const (.int .i64 0)), (.const (.int .i64 200))]⟩,
    ⟨(some 28), none, .fadr 4 (.tmp 1)⟩,
    ⟨(some 29), none, .load (.tmp 28) none⟩,
    ⟨(some 30), none, .call 30 [(.tmp 29), (.const (.int .i64 0)), (.const (.int .i64 5000))]⟩,
    ⟨(some 31), none, .fadr 5 (.tmp 1)⟩,
    ⟨(some 32), none, .load (.tmp 31) none⟩,
    ⟨(some 33), none, .call 30 [(.tmp 32), (.const (.int .i64 0)), (.const (.int .i64 500))]⟩,
    ⟨(some 34), none, .fadr 6 (.tmp 1)⟩,
    ⟨(some 35), none, .load (.tmp 34) none⟩,
    ⟨(some 36), none, .call 30 [(.tmp 35), (.const (.int .i64 0)), (.const (.int .i64 3000))]⟩,
    ⟨(some 37), none, .fadr 7 (.tmp 1)⟩,
    ⟨(some 38), none, .load (.tmp 37) none⟩,
    ⟨(some 39), none, .call 30 [(.tmp 38), (.const (.int .i64 0)), (.const (.int .i64 3))]⟩,
    ⟨(some 40), none, .build [(.int .i64 0), (.int .i64 0), (.int .i64 0), (.slice none 0 0), (.slice none 0 0), (.int .i64 0), (.int .i64 0), (.int .i64 0), (.int .i64 0), (.int .i64 0), (.int .i64 0), (.int .i64 0), (.int .i64 0), (.int .i64 0), (.int .i64 0), (.slice none 0 0), (.slice none 0 0), (.slice none 0 0)] [(0, 1, (.tmp 18)), (1, 1, (.tmp 21)), (2, 1, (.tmp 24)), (5, 1, (.tmp 27)), (6, 1, (.tmp 30)), (7, 1, (.tmp 33)), (8, 1, (.tmp 36)), (9, 1, (.tmp 39))]⟩,
    ⟨(some 3), none, .alloc [(.int .i64 0), (.int .i64 0), (.int .i64 0), (.slice none 0 0), (.slice none 0 0), (.int .i64 0), (.int .i64 0), (.int .i64 0), (.int .i64 0), (.int .i64 0), (.int .i64 0), (.int .i64 0), (.int .i64 0), (.int .i64 0), (.int .i64 0), (.slice none 0 0), (.slice none 0 0), (.slice none 0 0)]⟩,
    ⟨none, none, .store (.tmp 3) (.tmp 40) 18⟩] [(4, 2), (7, 2), (7, 5), (10, 2), (10, 5), (10, 8), (13, 2), (13, 5), (13, 8), (13, 11), (16, 2), (16, 5), (16, 8), (16, 11), (16, 14), (19, 2), (19, 5), (19, 8), (19, 11), (19, 14), (19, 17), (22, 2), (22, 5), (22, 8), (22, 11), (22, 14), (22, 17), (22, 20)])
 (.seq (.dreg [
    ⟨(some 41), none, .fadr 8 (.tmp 1)⟩,
    ⟨(some 42), none, .iadr 1 (some 5) (.tmp 41) (.const (.int .i64 0))⟩,
    ⟨(some 43), none, .load (.tmp 42) none⟩,
    ⟨(some 44), none, .call 30 [(.tmp 43), (.const (.int .i64 0)), (.const (.int .i64 12000))]⟩,
    ⟨(some 45), none, .fadr 8 (.tmp 1)⟩,
    ⟨(some 46), none, .iadr 1 (some 5) (.tmp 45) (.const (.int .i64 1))⟩,
    ⟨(some 47), none, .load (.tmp 46) none⟩,
    ⟨(some 48), none, .call 30 [(.tmp 47), (.const (.int .i64 0)), (.const (.int .i64 15000))]⟩,
    ⟨(some 49), none, .fadr 8 (.tmp 1)⟩,
    ⟨(some 50), none, .iadr 1 (some 5) (.tmp 49) (.const (.int .i64 2))⟩,
    ⟨(some 51), none, .load (.tmp 50) none⟩,
    ⟨(some 52), none, .call 30 [(.tmp 51), (.const (.int .i64 0)), (.const (.int .i64 5000))]⟩,
    ⟨(some 53), none, .fadr 8 (.tmp 1)⟩,
    ⟨(some 54), none, .iadr 1 (some 5) (.tmp 53) (.const (.int .i64 3))⟩,
    ⟨(some 55), none, .load (.tmp 54) none⟩,
    ⟨(some 56), none, .call 30 [(.tmp 55), (.const (.int .i64 0)), (.const (.int .i64 5000))]⟩,
    ⟨(some 57), none, .fadr 8 (.tmp 1)⟩,
    ⟨(some 58), none, .iadr 1 (some 5) (.tmp 57) (.const (.int .i64 4))⟩,
    ⟨(some 59), none, .load (.tmp 58) none⟩,
    ⟨(some 60), none, .call 30 [(.tmp 59), (.const (.int .i64 0)), (.const (.int .i64 3000))]⟩,
    ⟨(some 61), none, .build [(.int .i64 0), (.int .i64 0), (.int .i64 0), (.int .i64 0), (.int .i64 0)] [(0, 1, (.tmp 44)), (1, 1, (.tmp 48)), (2, 1, (.tmp 52)), (3, 1, (.tmp 56)), (4, 1, (.tmp 60))]⟩,
    ⟨(some 62), none, .fadr 10 (.tmp 3)⟩,
    ⟨none, none, .store (.tmp 62) (.tmp 61) 5⟩] [(6, 3), (10, 3), (10, 7), (14, 3), (14, 7), (14, 11), (18, 3), (18, 7), (18, 11), (18, 15)])
 (.seq (.reg [
    ⟨(some 63), none, .fadr 13 (.tmp 1)⟩,
    ⟨(some 64), none, .load (.tmp 63) none⟩,
    ⟨(some 65), none, .call 49 [(.tmp 64)]⟩,
    ⟨(some 66), none, .build [(.int .i64 0), (.int .i64 0)] [(0, 1, (.const (.int .i64 99))), (1, 1, (.const (.int .i64 50000)))]⟩,
    ⟨(some 67), none, .mkrow [(.int .i64 0), (.int .i64 0)] 1 [(0, 2, (.tmp 66))]⟩,
    ⟨(some 68), none, .append 2 16 (.tmp 65) (.tmp 67)⟩,
    ⟨(some 69), none, .fadr 3 (.tmp 3)⟩,
    ⟨none, none, .store (.tmp 69) (.tmp 68) 1⟩])
 (.seq (.reg [
    ⟨(some 4), none, .mov (.const (.int .i64 0))⟩])
 (.seq (.seq (.reg [
     ⟨(some 70), none, .fadr 3 (.tmp 3)⟩,
     ⟨(some 71), none, .load (.tmp 70) none⟩,
     ⟨(some 72), none, .len (.tmp 71)⟩,
     ⟨(some 73), none, .mov (.const (.int .i64 0))⟩])
  (.block 0
    (.loop
      (.seq (.reg [
         ⟨(some 74), none, .bin .lss (.tmp 73) (.tmp 72)⟩])
      (.seq (.ite (.tmp 74)
         (.skip)
         (.exit 0))
      (.seq (.block 1
         (.seq (.reg [
            ⟨(some 75), none, .iadr 2 none (.tmp 71) (.tmp 73)⟩,
            ⟨(some 76), none, .load (.tmp 75) (some 2)⟩,
            ⟨(some 6), none, .alloc [(.int .i64 0), (.int .i64 0)]⟩,
            ⟨none, none, .store (.tmp 6) (.tmp 76) 2⟩])
         (.reg [
           ⟨(some 77), none, .mov (.tmp 4)⟩,
           ⟨(some 78), none, .fadr 1 (.tmp 6)⟩,
           ⟨(some 79), none, .load (.tmp 78) none⟩,
           ⟨(some 80), none, .bin .add (.tmp 77) (.tmp 79)⟩,
           ⟨(some 4), none, .mov (.tmp 80)⟩])))
      (.reg [
        ⟨(some 81), none, .bin .add (.tmp 73) (.const (.int .i64 1))⟩,
        ⟨(some 73), none, .mov (.tmp 81)⟩])))))))
 (.seq (.seq (.reg [
     ⟨(some 7), none, .mov (.const (.int .i64 0))⟩])
  (.block 2
    (.loop
      (.seq (.seq (.reg [
          ⟨(some 82), none, .mov (.tmp 7)⟩,
          ⟨(some 83), none, .fadr 14 (.tmp 1)⟩,
          ⟨(some 84), none, .load (.tmp 83) none⟩,
          ⟨(some 85), none, .len (.tmp 84)⟩,
          ⟨(some 86), none, .bin .add (.const (.int .i64 1)) (.tmp 85)⟩,
          ⟨(some 87), none, .bin .lss (.tmp 82) (.tmp 86)⟩,
          ⟨(some 88), none, .mov (.tmp 87)⟩,
          ⟨(some 89), (some (88, true)), .mov (.tmp 7)⟩,
          ⟨(some 90), (some (88, true)), .bin .lss (.tmp 89) (.const (.int .i64 5))⟩,
          ⟨(some 91), none, .pick (.tmp 88) (.tmp 90) (.const (.bool false))⟩])
       (.ite (.tmp 91)
         (.skip)
         (.exit 2)))
      (.seq (.block 3
         (.seq (.reg [
            ⟨(some 94), none, .fadr 14 (.tmp 1)⟩,
            ⟨(some 95), none, .load (.tmp 94) none⟩,
            ⟨(some 96), none, .mov (.tmp 7)⟩,
            ⟨(some 97), none, .call 76 [(.tmp 95), (.tmp 96)]⟩,
            ⟨(some 98), none, .mov (.tmp 4)⟩,
            ⟨(some 99), none, .bin .quo (.tmp 98) (.const (.int .i64 6))⟩,
            ⟨(some 100), none, .call 30 [(.tmp 97), (.const (.int .i64 0)), (.tmp 99)]⟩,
            ⟨(some 101), none, .bin .add (.const (.int .i64 1)) (.tmp 100)⟩,
            ⟨(some 8), none, .mov (.tmp 101)⟩])
         (.dreg [
           ⟨(some 102), none, .fadr 4 (.tmp 3)⟩,
           ⟨(some 103), none, .load (.tmp 102) none⟩,
           ⟨(some 104), none, .fadr 15 (.tmp 1)⟩,
           ⟨(some 105), none, .load (.tmp 104) none⟩,
           ⟨(some 106), none, .mov (.tmp 7)⟩,
           ⟨(some 107), none, .call 76 [(.tmp 105), (.tmp 106)]⟩,
           ⟨(some 108), none, .call 30 [(.tmp 107), (.const (.int .i64 0)), (.const (.int .i64 3))]⟩,
           ⟨(some 109), none, .mov (.tmp 8)⟩,
           ⟨(some 110), none, .fadr 16 (.tmp 1)⟩,
           ⟨(some 111), none, .load (.tmp 110) none⟩,
           ⟨(some 112), none, .mov (.tmp 7)⟩,
           ⟨(some 113), none, .call 76 [(.tmp 111), (.tmp 112)]⟩,
           ⟨(some 114), none, .call 30 [(.tmp 113), (.const (.int .i64 0)), (.const (.int .i64 1200))]⟩,
           ⟨(some 115), none, .build [(.int .i64 0), (.int .i64 0), (.int .i64 0)] [(0, 1, (.tmp 108)), (1, 1, (.tmp 109)), (2, 1, (.tmp 114))]⟩,
           ⟨(some 116), none, .mkrow [(.int .i64 0), (.int .i64 0), (.int .i64 0)] 1 [(0, 3, (.tmp 115))]⟩,
           ⟨(some 117), none, .append 3 24 (.tmp 103) (.tmp 116)⟩,
           ⟨(some 118), none, .fadr 4 (.tmp 3)⟩,
           ⟨none, none, .store (.tmp 118) (.tmp 117) 1⟩] [(1, 5), (1, 6), (1, 11), (1, 12), (9, 5), (9, 6)])))
      (.reg [
        ⟨(some 92), none, .mov (.tmp 7)⟩,
        ⟨(some 93), none, .bin .add (.tmp 92) (.const (.int .i64 1))⟩,
        ⟨(some 7), none, .mov (.tmp 93)⟩]))))))
 (.seq (.seq (.reg [
     ⟨(some 119), none, .mov (.const (.int .i64 0))⟩])
  (.block 4
    (.loop
      (.seq (.reg [
         ⟨(some 120), none, .bin .lss (.tmp 119) (.const (.int .i64 3))⟩])
      (.seq (.ite (.tmp 120)
         (.skip)
         (.exit 4))
      (.seq (.block 5
         (.seq (.reg [
            ⟨(some 121), none, .mov (.tmp 119)⟩,
            ⟨(some 9), none, .mov (.tmp 121)⟩])
         (.seq (.reg [
            ⟨(some 10), none, .mov (.const (.slice none 0 0))⟩])
         (.seq (.seq (.reg [
             ⟨(some 11), none, .mov (.const (.int .i64 0))⟩])
          (.block 6
            (.loop
              (.seq (.seq (.reg [
                  ⟨(some 122), none, .mov (.tmp 11)⟩,
                  ⟨(some 123), none, .mov (.tmp 9)⟩,
                  ⟨(some 124), none, .fadr 17 (.tmp 1)⟩,
                  ⟨(some 125), none, .iadr 1 (some 3) (.tmp 124) (.tmp 123)⟩,
                  ⟨(some 126), none, .load (.tmp 125) none⟩,
                  ⟨(some 127), none, .len (.tmp 126)⟩,
                  ⟨(some 128), none, .bin .lss (.tmp 122) (.tmp 127)⟩,
                  ⟨(some 129), none, .mov (.tmp 128)⟩,
                  ⟨(some 130), (some (129, true)), .mov (.tmp 11)⟩,
                  ⟨(some 131), (some (129, true)), .bin .lss (.tmp 130) (.const (.int .i64 12))⟩,
                  ⟨(some 132), none, .pick (.tmp 129) (.tmp 131) (.const (.bool false))⟩])
               (.ite (.tmp 132)
                 (.skip)
                 (.exit 6)))
              (.seq (.block 7
                 (.seq (.reg [
                    ⟨(some 135), none, .mov (.tmp 9)⟩,
                    ⟨(some 136), none, .fadr 17 (.tmp 1)⟩,
                    ⟨(some 137), none, .iadr 1 (some 3) (.tmp 136) (.tmp 135)⟩,
                    ⟨(some 138), none, .load (.tmp 137) none⟩,
                    ⟨(some 139), none, .mov (.tmp 11)⟩,
                    ⟨(some 140), none, .iadr 1 none (.tmp 138) (.tmp 139)⟩,
                    ⟨(some 141), none, .load (.tmp 140) none⟩,
                    ⟨(some 142), none, .call 30 [(.tmp 141), (.const (.int .i64 1)), (.const (.int .i64 7))]⟩,
                    ⟨(some 143), none, .build [(.int .i64 0), (.int .i64 0)] [(0, 1, (.tmp 142))]⟩,
                    ⟨(some 12), none, .alloc [(.int .i64 0), (.int .i64 0)]⟩,
                    ⟨none, none, .store (.tmp 12) (.tmp 143) 2⟩])
                 (.seq (.seq (.reg [
                     ⟨(some 144), none, .fadr 0 (.tmp 12)⟩,
                     ⟨(some 145), none, .load (.tmp 144) none⟩,
                     ⟨(some 146), none, .bin .eql (.tmp 145) (.const (.int .i64 3))⟩])
                  (.ite (.tmp 146)
                    (.reg [
                      ⟨(some 147), none, .mov (.tmp 9)⟩,
                      ⟨(some 148), none, .fadr 17 (.tmp 1)⟩,
                      ⟨(some 149), none, .iadr 1 (some 3) (.tmp 148) (.tmp 147)⟩,
                      ⟨(some 150), none, .load (.tmp 149) none⟩,
                      ⟨(some 151), none, .mov (.tmp 11)⟩,
                      ⟨(some 152), none, .iadr 1 none (.tmp 150) (.tmp 151)⟩,
                      ⟨(some 153), none, .load (.tmp 152) none⟩,
                      ⟨(some 154), none, .bin .quo (.tmp 153) (.const (.int .i64 7))⟩,
                      ⟨(some 155), none, .call 30 [(.tmp 154), (.const (.int .i64 0)), (.const (.int .i64 3))]⟩,
                      ⟨(some 156), none, .fadr 1 (.tmp 12)⟩,
                      ⟨none, none, .store (.tmp 156) (.tmp 155) 1⟩])
                    (.skip)))
                 (.seq (.reg [
                    ⟨(some 13), none, .mov (.const (.bool false))⟩])
                 (.seq (.seq (.reg [
                     ⟨(some 157), none, .mov (.tmp 10)⟩,
                     ⟨(some 158), none, .len (.tmp 157)⟩,
                     ⟨(some 159), none, .mov (.const (.int .i64 0))⟩])
                  (.block 8
                    (.loop
                      (.seq (.reg [
                         ⟨(some 160), none, .bin .lss (.tmp 159) (.tmp 158)⟩])
                      (.seq (.ite (.tmp 160)
                         (.skip)
                         (.exit 8))
                      (.seq (.block 9
                         (.seq (.reg [
                            ⟨(some 161), none, .iadr 2 none (.tmp 157) (.tmp 159)⟩,
                            ⟨(some 162), none, .load (.tmp 161) (some 2)⟩,
                            ⟨(some 15), none, .alloc [(.int .i64 0), (.int .i64 0)]⟩,
                            ⟨none, none, .store (.tmp 15) (.tmp 162) 2⟩])
                         (.reg [
                           ⟨(some 163), none, .mov (.tmp 13)⟩,
                           ⟨(some 164), none, .mov (.tmp 163)⟩,
                           ⟨(some 165), (some (164, false)), .load (.tmp 15) (some 2)⟩,
                           ⟨(some 166), (some (164, false)), .load (.tmp 12) (some 2)⟩,
                           ⟨(some 167), (some (164, false)), .eqv false (.cells [false, false]) (.tmp 165) (.tmp 166)⟩,
                           ⟨(some 168), none, .pick (.tmp 164) (.const (.bool true)) (.tmp 167)⟩,
                           ⟨(some 13), none, .mov (.tmp 168)⟩])))
                      (.reg [
                        ⟨(some 169), none, .bin .add (.tmp 159) (.const (.int .i64 1))⟩,
                        ⟨(some 159), none, .mov (.tmp 169)⟩])))))))
                 (.seq (.reg [
                    ⟨(some 170), none, .mov (.tmp 13)⟩,
                    ⟨(some 171), none, .un .not (.tmp 170)⟩])
                 (.ite (.tmp 171)
                   (.reg [
                     ⟨(some 172), none, .mov (.tmp 10)⟩,
                     ⟨(some 173), none, .load (.tmp 12) (some 2)⟩,
                     ⟨(some 174), none, .mkrow [(.int .i64 0), (.int .i64 0)] 1 [(0, 2, (.tmp 173))]⟩,
                     ⟨(some 175), none, .append 2 16 (.tmp 172) (.tmp 174)⟩,
                     ⟨(some 10), none, .mov (.tmp 175)⟩])
                   (.skip))))))))
              (.reg [
                ⟨(some 133), none, .mov (.tmp 11)⟩,
                ⟨(some 134), none, .bin .add (.tmp 133) (.const (.int .i64 1))⟩,
                ⟨(some 11), none, .mov (.tmp 134)⟩]))))))
         (.seq (.seq (.reg [
             ⟨(some 176), none, .mov (.tmp 10)⟩,
             ⟨(some 177), none, .len (.tmp 176)⟩,
             ⟨(some 178), none, .bin .eql (.tmp 177) (.const (.int .i64 0))⟩])
          (.ite (.tmp 178)
            (.reg [
              ⟨(some 179), none, .build [(.int .i64 0), (.int .i64 0)] [(0, 1, (.const (.int .i64 1)))]⟩,
              ⟨(some 180), none, .build [(.int .i64 0), (.int .i64 0)] [(0, 1, (.const (.int .i64 3)))]⟩,
              ⟨(some 181), none, .build [(.int .i64 0), (.int .i64 0)] [(0, 1, (.const (.int .i64 3))), (1, 1, (.const (.int .i64 1)))]⟩,
              ⟨(some 182), none, .build [(.int .i64 0), (.int .i64 0)] [(0, 1, (.const (.int .i64 4)))]⟩,
              ⟨(some 183), none, .build [(.int .i64 0), (.int .i64 0)] [(0, 1, (.const (.int .i64 2)))]⟩,
              ⟨(some 184), none, .build [(.int .i64 0), (.int .i64 0)] [(0, 1, (.const (.int .i64 6)))]⟩,
              ⟨(some 185), none, .mkrow [(.int .i64 0), (.int .i64 0), (.int .i64 0), (.int .i64 0), (.int .i64 0), (.int .i64 0), (.int .i64 0), (.int .i64 0), (.int .i64 0), (.int .i64 0), (.int .i64 0), (.int .i64 0)] 6 [(0, 2, (.tmp 179)), (2, 2, (.tmp 180)), (4, 2, (.tmp 181)), (6, 2, (.tmp 182)), (8, 2, (.tmp 183)), (10, 2, (.tmp 184))]⟩,
              ⟨(some 10), none, .mov (.tmp 185)⟩])
            (.skip)))
         (.reg [
           ⟨(some 186), none, .mov (.tmp 9)⟩,
           ⟨(some 187), none, .mov (.tmp 10)⟩,
           ⟨(some 188), none, .fadr 15 (.tmp 3)⟩,
           ⟨(some 189), none, .iadr 1 (some 3) (.tmp 188) (.tmp 186)⟩,
           ⟨none, none, .store (.tmp 189) (.tmp 187) 1⟩]))))))
      (.reg [
        ⟨(some 190), none, .bin .add (.tmp 119) (.const (.int .i64 1))⟩,
        ⟨(some 119), none, .mov (.tmp 190)⟩])))))))
 (.seq (.reg [
    ⟨(some 191), none, .load (.tmp 3) (some 18)⟩,
    ⟨none, none, .store (.tmp 2) (.tmp 191) 18⟩])
 (.ret)))))))))⟩
theorem st41 : stF Try.prog qt 41 = some il41 := by kernel_rfl
def body41_0 : IL := .seq (.reg [
    ⟨(some 74), none, .bin .lss (.tmp 73) (.tmp 72)⟩])
 (.seq (.ite (.tmp 74)
    (.skip)
    (.exit 0))
 (.seq (.block 1
    (.seq (.reg [
       ⟨(some 75), none, .iadr 2 none (.tmp 71) (.tmp 73)⟩,
       ⟨(some 76), none, .load (.tmp 75) (some 2)⟩,
       ⟨(some 6), none, .alloc [(.int .i64 0), (.int .i64 0)]⟩,
       ⟨none, none, .store (.tmp 6) (.tmp 76) 2⟩])
    (.reg [
      ⟨(some 77), none, .mov (.tmp 4)⟩,
      ⟨(some 78), none, .fadr 1 (.tmp 6)⟩,
      ⟨(some 79), none, .load (.tmp 78) none⟩,
      ⟨(some 80), none, .bin .add (.tmp 77) (.tmp 79)⟩,
      ⟨(some 4), none, .mov (.tmp 80)⟩])))
 (.reg [
   ⟨(some 81), none, .bin .add (.tmp 73) (.const (.int .i64 1))⟩,
   ⟨(some 73), none, .mov (.tmp 81)⟩])))
def hn41a (k0 k1 k2 k3 k4 k5 k6 k7 k8 k9 k10 k11 k12 d0 d1 d2 d3 d4 d5 d6 d7 d8 d9 d10 d11 d12 : Int) (u0 u1 u2 u3 u4 u5 u6 L N S0 S1 S2 : Value) (al : Option Addr) (nl cl : Nat) (i s_ x0 x1 : Int) (b1 o1 : Nat) (H Y J : Heap) : Hs := (.sym (.pur 22000075 (.pointer (some ⟨b1, o1, none⟩)) (.use 7000076 (.raw (.agg ⟨[(.int .i64 x0), (.int .i64 x1)]⟩)) ⟨[], []⟩ .nil)) .nil)
theorem tree41a (k0 k1 k2 k3 k4 k5 k6 k7 k8 k9 k10 k11 k12 d0 d1 d2 d3 d4 d5 d6 d7 d8 d9 d10 d11 d12 : Int) (u0 u1 u2 u3 u4 u5 u6 L N S0 S1 S2 : Value) (al : Option Addr) (nl cl : Nat) (i s_ x0 x1 : Int) (b1 o1 : Nat) (H Y J : Heap) : pieceS tblK (gE 0) (cE 0) 100 (fun i => exL i body41_0 || inL [1, 2, 3, 4] i) body41_0 (hn41a k0 k1 k2 k3 k4 k5 k6 k7 k8 k9 k10 k11 k12 d0 d1 d2 d3 d4 d5 d6 d7 d8 d9 d10 d11 d12 u0 u1 u2 u3 u4 u5 u6 L N S0 S1 S2 al nl cl i s_ x0 x1 b1 o1 H Y J) (frS 192 [(1, (.ptr 1 0)), (2, (.ptr 2 0)), (3, (.ptr 3 0)), (4, (sI s_)), (71, (.raw (.slice al nl cl))), (72, (sI (nl : Int))), (73, (sI i))]) [.seg H, (kB k0 k1 k2 k3 k4 k5 k6 k7 k8 k9 k10 k11 k12 (.raw u0) (.raw u1) (.raw u2) (.raw u3) (.raw u4) (.raw u5) (.raw u6)), (dB 0 0 0 (.raw (.slice none 0 0)) (.raw (.slice none 0 0)) 0 0 0 0 0 0 0 0 0 0 (.raw (.slice none 0 0)) (.raw (.slice none 0 0)) (.raw (.slice none 0 0))), (dB d0 d1 d2 (.raw L) (.raw N) d3 d4 d5 d6 d7 d8 d9 d10 d11 d12 (.raw S0) (.raw S1) (.raw S2)), .seg Y, .seg J] =
(.br (decide (i < (nl : Int)))
 (.claim (opA (Plain.env tblK (gE 0)) (.iadr 2 none (.const (.slice al nl cl)) (.const (.int .i64 i))) [] [] = some ((.pointer (some ⟨b1, o1, none⟩)), []))
 (.claim (opA (Plain.env tblK (gE 0)) (.load (.const (.pointer (some ⟨b1, o1, none⟩))) (some 2)) [] (denH [.seg H, (kB k0 k1 k2 k3 k4 k5 k6 k7 k8 k9 k10 k11 k12 (.raw u0) (.raw u1) (.raw u2) (.raw u3) (.raw u4) (.raw u5) (.raw u6)), (dB 0 0 0 (.raw (.slice none 0 0)) (.raw (.slice none 0 0)) 0 0 0 0 0 0 0 0 0 0 (.raw (.slice none 0 0)) (.raw (.slice none 0 0)) (.raw (.slice none 0 0))), (dB d0 d1 d2 (.raw L) (.raw N) d3 d4 d5 d6 d7 d8 d9 d10 d11 d12 (.raw S0) (.raw S1) (.raw S2)), .seg Y, .seg J]) = some ((.agg ⟨[(.int .i64 x0), (.int .i64 x1)]⟩), denH [.seg H, (kB k0 k1 k2 k3 k4 k5 k6 k7 k8 k9 k10 k11 k12 (.raw u0) (.raw u1) (.raw u2) (.raw u3) (.raw u4) (.raw u5) (.raw u6)), (dB 0 0 0 (.raw (.slice none 0 0)) (.raw (.slice none 0 0)) 0 0 0 0 0 0 0 0 0 0 (.raw (.slice none 0 0)) (.raw (.slice none 0 0)) (.raw (.slice none 0 0))), (dB d0 d1 d2 (.raw L) (.raw N) d3 d4 d5 d6 d7 d8 d9 d10 d11 d12 (.raw S0) (.raw S1) (.raw S2)), .seg Y, .seg J]))
 (.ret .normal (frS 192 [(1, (.ptr 1 0)), (2, (.ptr 2 0)), (3, (.ptr 3 0)), (4, (sI (IntKind.wrap .i64 (s_ + x1)))), (71, (.raw (.slice al nl cl))), (72, (sI (nl : Int))), (73, (sI (IntKind.wrap .i64 (i + 1))))]) [.seg H, (kB k0 k1 k2 k3 k4 k5 k6 k7 k8 k9 k10 k11 k12 (.raw u0) (.raw u1) (.raw u2) (.raw u3) (.raw u4) (.raw u5) (.raw u6)), (dB 0 0 0 (.raw (.slice none 0 0)) (.raw (.slice none 0 0)) 0 0 0 0 0 0 0 0 0 0 (.raw (.slice none 0 0)) (.raw (.slice none 0 0)) (.raw (.slice none 0 0))), (dB d0 d1 d2 (.raw L) (.raw N) d3 d4 d5 d6 d7 d8 d9 d10 d11 d12 (.raw S0) (.raw S1) (.raw S2)), .seg Y, .seg J, .blk .fix [(sI x0), (sI x1)]])))
 (.ret (.exit 0) (frS 192 [(1, (.ptr 1 0)), (2, (.ptr 2 0)), (3, (.ptr 3 0)), (4, (sI s_)), (71, (.raw (.slice al nl cl))), (72, (sI (nl : Int))), (73, (sI i))]) [.seg H, (kB k0 k1 k2 k3 k4 k5 k6 k7 k8 k9 k10 k11 k12 (.raw u0) (.raw u1) (.raw u2) (.raw u3) (.raw u4) (.raw u5) (.raw u6)), (dB 0 0 0 (.raw (.slice none 0 0)) (.raw (.slice none 0 0)) 0 0 0 0 0 0 0 0 0 0 (.raw (.slice none 0 0)) (.raw (.slice none 0 0)) (.raw (.slice none 0 0))), (dB d0 d1 d2 (.raw L) (.raw N) d3 d4 d5 d6 d7 d8 d9 d10 d11 d12 (.raw S0) (.raw S1) (.raw S2)), .seg Y, .seg J])) := by kernel_rfl
def body41_2 : IL := .seq (.seq (.reg [
     ⟨(some 82), none, .mov (.tmp 7)⟩,
     ⟨(some 83), none, .fadr 14 (.tmp 1)⟩,
     ⟨(some 84), none, .load (.tmp 83) none⟩,
     ⟨(some 85), none, .len (.tmp 84)⟩,
     ⟨(some 86), none, .bin .add (.const (.int .i64 1)) (.tmp 85)⟩,
     ⟨(some 87), none, .bin .lss (.tmp 82) (.tmp 86)⟩,
     ⟨(some 88), none, .mov (.tmp 87)⟩,
     ⟨(some 89), (some (88, true)), .mov (.tmp 7)⟩,
     ⟨(some 90), (some (88, true)), .bin .lss (.tmp 89) (.const (.int .i64 5))⟩,
     ⟨(some 91), none, .pick (.tmp 88) (.tmp 90) (.const (.bool false))⟩])
  (.ite (.tmp 91)
    (.skip)
    (.exit 2)))
 (.seq (.block 3
    (.seq (.reg [
       ⟨(some 94), none, .fadr 14 (.tmp 1)⟩,
       ⟨(some 95), none, .load (.tmp 94) none⟩,
       ⟨(some 96), none, .mov (.tmp 7)⟩,
       ⟨(some 97), none, .call 76 [(.tmp 95), (.tmp 96)]⟩,
       ⟨(some 98), none, .mov (.tmp 4)⟩,
       ⟨(some 99), none, .bin .quo (.tmp 98) (.const (.int .i64 6))⟩,
       ⟨(some 100), none, .call 30 [(.tmp 97), (.const (.int .i64 0)), (.tmp 99)]⟩,
       ⟨(some 101), none, .bin .add (.const (.int .i64 1)) (.tmp 100)⟩,
       ⟨(some 8), none, .mov (.tmp 101)⟩])
    (.dreg [
      ⟨(some 102), none, .fadr 4 (.tmp 3)⟩,
      ⟨(some 103), none, .load (.tmp 102) none⟩,
      ⟨(some 104), none, .fadr 15 (.tmp 1)⟩,
      ⟨(some 105), none, .load (.tmp 104) none⟩,
      ⟨(some 106), none, .mov (.tmp 7)⟩,
      ⟨(some 107), none, .call 76 [(.tmp 105), (.tmp 106)]⟩,
      ⟨(some 108), none, .call 30 [(.tmp 107), (.const (.int .i64 0)), (.const (.int .i64 3))]⟩,
      ⟨(some 109), none, .mov (.tmp 8)⟩,
      ⟨(some 110), none, .fadr 16 (.tmp 1)⟩,
      ⟨(some 111), none, .load (.tmp 110) none⟩,
      ⟨(some 112), none, .mov (.tmp 7)⟩,
      ⟨(some 113), none, .call 76 [(.tmp 111), (.tmp 112)]⟩,
      ⟨(some 114), none, .call 30 [(.tmp 113), (.const (.int .i64 0)), (.const (.int .i64 1200))]⟩,
      ⟨(some 115), none, .build [(.int .i64 0), (.int .i64 0), (.int .i64 0)] [(0, 1, (.tmp 108)), (1, 1, (.tmp 109)), (2, 1, (.tmp 114))]⟩,
      ⟨(some 116), none, .mkrow [(.int .i64 0), (.int .i64 0), (.int .i64 0)] 1 [(0, 3, (.tmp 115))]⟩,
      ⟨(some 117), none, .append 3 24 (.tmp 103) (.tmp 116)⟩,
      ⟨(some 118), none, .fadr 4 (.tmp 3)⟩,
      ⟨none, none, .store (.tmp 118) (.tmp 117) 1⟩] [(1, 5), (1, 6), (1, 11), (1, 12), (9, 5), (9, 6)])))
 (.reg [
   ⟨(some 92), none, .mov (.tmp 7)⟩,
   ⟨(some 93), none, .bin .add (.tmp 92) (.const (.int .i64 1))⟩,
   ⟨(some 7), none, .mov (.tmp 93)⟩]))
def hn41b (k0 k1 k2 k3 k4 k5 k6 k7 k8 k9 k10 k11 k12 d0 d1 d2 d3 d4 d5 d6 d7 d8 d9 d10 d11 d12 : Int) (u0 u1 u2 u3 u4 u5 u6 L N S0 S1 S2 : Value) (an ar at_ al a2 : Option Addr) (nn cn nr cr nt ct nl cl n2 c2 : Nat) (i s_ p0 p1 p2 : Int) (H Y J J2 X : Heap) : Hs := (.join 3 (.con (.con (.con .nil))) (.con (.con (.con .nil))) (.sym (.use 26000097 (sI p0) ⟨[], []⟩ (.crs [none, none, none, none, none, some ((sI p1), ⟨[], []⟩), none, none, none, none, none, some ((sI p2), ⟨[], []⟩), none, none, none, some ((.raw (.slice a2 n2 c2)), ⟨[(5, .seg J2)], [.seg X]⟩), none, none] .nil)) .nil))
theorem tree41b (k0 k1 k2 k3 k4 k5 k6 k7 k8 k9 k10 k11 k12 d0 d1 d2 d3 d4 d5 d6 d7 d8 d9 d10 d11 d12 : Int) (u0 u1 u2 u3 u4 u5 u6 L N S0 S1 S2 : Value) (an ar at_ al a2 : Option Addr) (nn cn nr cr nt ct nl cl n2 c2 : Nat) (i s_ p0 p1 p2 : Int) (H Y J J2 X : Heap) : pieceS tblK (gE 0) (cE 0) 100 (fun i => exL i body41_2 || inL [1, 2, 3] i) body41_2 (hn41b k0 k1 k2 k3 k4 k5 k6 k7 k8 k9 k10 k11 k12 d0 d1 d2 d3 d4 d5 d6 d7 d8 d9 d10 d11 d12 u0 u1 u2 u3 u4 u5 u6 L N S0 S1 S2 an ar at_ al a2 nn cn nr cr nt ct nl cl n2 c2 i s_ p0 p1 p2 H Y J J2 X) (frS 192 [(1, (.ptr 1 0)), (2, (.ptr 2 0)), (3, (.ptr 3 0)), (4, (sI s_)), (7, (sI i))]) [.seg H, (kB k0 k1 k2 k3 k4 k5 k6 k7 k8 k9 k10 k11 k12 (.raw u0) (.raw (.slice an nn cn)) (.raw (.slice ar nr cr)) (.raw (.slice at_ nt ct)) (.raw u4) (.raw u5) (.raw u6)), (dB 0 0 0 (.raw (.slice none 0 0)) (.raw (.slice none 0 0)) 0 0 0 0 0 0 0 0 0 0 (.raw (.slice none 0 0)) (.raw (.slice none 0 0)) (.raw (.slice none 0 0))), (dB d0 d1 d2 (.raw L) (.raw (.slice al nl cl)) d3 d4 d5 d6 d7 d8 d9 d10 d11 d12 (.raw S0) (.raw S1) (.raw S2)), .seg Y, .seg J] =
(.req (bif (decide (i < (IntKind.wrap .i64 (1 + (nn : Int))))) then true else true) (.br (bif (decide (i < (IntKind.wrap .i64 (1 + (nn : Int))))) then (decide (i < 5)) else false)
 (.claim (opA (Plain.env tblK (gE 0)) (.call 76 [(.const (.slice an nn cn)), (.const (.int .i64 i))]) [] (denH [.seg H, (kB k0 k1 k2 k3 k4 k5 k6 k7 k8 k9 k10 k11 k12 (.raw u0) (.raw (.slice an nn cn)) (.raw (.slice ar nr cr)) (.raw (.slice at_ nt ct)) (.raw u4) (.raw u5) (.raw u6)), (dB 0 0 0 (.raw (.slice none 0 0)) (.raw (.slice none 0 0)) 0 0 0 0 0 0 0 0 0 0 (.raw (.slice none 0 0)) (.raw (.slice none 0 0)) (.raw (.slice none 0 0))), (dB d0 d1 d2 (.raw L) (.raw (.slice al nl cl)) d3 d4 d5 d6 d7 d8 d9 d10 d11 d12 (.raw S0) (.raw S1) (.raw S2)), .seg Y, .seg J]) = some ((.int .i64 p0), denH [.seg H, (kB k0 k1 k2 k3 k4 k5 k6 k7 k8 k9 k10 k11 k12 (.raw u0) (.raw (.slice an nn cn)) (.raw (.slice ar nr cr)) (.raw (.slice at_ nt ct)) (.raw u4) (.raw u5) (.raw u6)), (dB 0 0 0 (.raw (.slice none 0 0)) (.raw (.slice none 0 0)) 0 0 0 0 0 0 0 0 0 0 (.raw (.slice none 0 0)) (.raw (.slice none 0 0)) (.raw (.slice none 0 0))), (dB d0 d1 d2 (.raw L) (.raw (.slice al nl cl)) d3 d4 d5 d6 d7 d8 d9 d10 d11 d12 (.raw S0) (.raw S1) (.raw S2)), .seg Y, .seg J]))
 (.req true (.req (preWithin 0 (IntKind.wrap .i64 (Int.tdiv s_ 6))) (.req true (.req true (.req true (.req true (.req true (.claim (opA (Plain.env tblK (gE 0)) (.call 76 [(.const (.slice ar nr cr)), (.const (.int .i64 i))]) [] (denH [.seg H, (kB k0 k1 k2 k3 k4 k5 k6 k7 k8 k9 k10 k11 k12 (.raw u0) (.raw (.slice an nn cn)) (.raw (.slice ar nr cr)) (.raw (.slice at_ nt ct)) (.raw u4) (.raw u5) (.raw u6)), (dB 0 0 0 (.raw (.slice none 0 0)) (.raw (.slice none 0 0)) 0 0 0 0 0 0 0 0 0 0 (.raw (.slice none 0 0)) (.raw (.slice none 0 0)) (.raw (.slice none 0 0))), (dB d0 d1 d2 (.raw L) (.raw (.slice al nl cl)) d3 d4 d5 d6 d7 d8 d9 d10 d11 d12 (.raw S0) (.raw S1) (.raw S2)), .seg Y, .seg J]) = some ((.int .i64 p1), denH [.seg H, (kB k0 k1 k2 k3 k4 k5 k6 k7 k8 k9 k10 k11 k12 (.raw u0) (.raw (.slice an nn cn)) (.raw (.slice ar nr cr)) (.raw (.slice at_ nt ct)) (.raw u4) (.raw u5) (.raw u6)), (dB 0 0 0 (.raw (.slice none 0 0)) (.raw (.slice none 0 0)) 0 0 0 0 0 0 0 0 0 0 (.raw (.slice none 0 0)) (.raw (.slice none 0 0)) (.raw (.slice none 0 0))), (dB d0 d1 d2 (.raw L) (.raw (.slice al nl cl)) d3 d4 d5 d6 d7 d8 d9 d10 d11 d12 (.raw S0) (.raw S1) (.raw S2)), .seg Y, .seg J]))
 (.req (preWithin 0 3) (.req true (.req true (.req true (.req true (.claim (opA (Plain.env tblK (gE 0)) (.call 76 [(.const (.slice at_ nt ct)), (.const (.int .i64 i))]) [] (denH [.seg H, (kB k0 k1 k2 k3 k4 k5 k6 k7 k8 k9 k10 k11 k12 (.raw u0) (.raw (.slice an nn cn)) (.raw (.slice ar nr cr)) (.raw (.slice at_ nt ct)) (.raw u4) (.raw u5) (.raw u6)), (dB 0 0 0 (.raw (.slice none 0 0)) (.raw (.slice none 0 0)) 0 0 0 0 0 0 0 0 0 0 (.raw (.slice none 0 0)) (.raw (.slice none 0 0)) (.raw (.slice none 0 0))), (dB d0 d1 d2 (.raw L) (.raw (.slice al nl cl)) d3 d4 d5 d6 d7 d8 d9 d10 d11 d12 (.raw S0) (.raw S1) (.raw S2)), .seg Y, .seg J]) = some ((.int .i64 p2), denH [.seg H, (kB k0 k1 k2 k3 k4 k5 k6 k7 k8 k9 k10 k11 k12 (.raw u0) (.raw (.slice an nn cn)) (.raw (.slice ar nr cr)) (.raw (.slice at_ nt ct)) (.raw u4) (.raw u5) (.raw u6)), (dB 0 0 0 (.raw (.slice none 0 0)) (.raw (.slice none 0 0)) 0 0 0 0 0 0 0 0 0 0 (.raw (.slice none 0 0)) (.raw (.slice none 0 0)) (.raw (.slice none 0 0))), (dB d0 d1 d2 (.raw L) (.raw (.slice al nl cl)) d3 d4 d5 d6 d7 d8 d9 d10 d11 d12 (.raw S0) (.raw S1) (.raw S2)), .seg Y, .seg J]))
 (.req (preWithin 0 1200) (.req true (.req true (.claim (List.length J2 = List.length J) (.claim (opA (Plain.env tblK (gE 0)) (.append 3 24 (.const (.slice al nl cl)) (.const (denV (ofs [.seg H, (kB k0 k1 k2 k3 k4 k5 k6 k7 k8 k9 k10 k11 k12 (.raw u0) (.raw (.slice an nn cn)) (.raw (.slice ar nr cr)) (.raw (.slice at_ nt ct)) (.raw u4) (.raw u5) (.raw u6)), (dB 0 0 0 (.raw (.slice none 0 0)) (.raw (.slice none 0 0)) 0 0 0 0 0 0 0 0 0 0 (.raw (.slice none 0 0)) (.raw (.slice none 0 0)) (.raw (.slice none 0 0))), (dB d0 d1 d2 (.raw L) (.raw (.slice al nl cl)) d3 d4 d5 d6 d7 d8 d9 d10 d11 d12 (.raw S0) (.raw S1) (.raw S2)), .seg Y, .seg J, .blk .fix [(sI (wn p1 0 3)), (sI (IntKind.wrap .i64 (1 + (wn p0 0 (IntKind.wrap .i64 (Int.tdiv s_ 6)))))), (sI (wn p2 0 1200))]]) (.sl 6 0 1 1)))) [] (denH [.seg H, (kB k0 k1 k2 k3 k4 k5 k6 k7 k8 k9 k10 k11 k12 (.raw u0) (.raw (.slice an nn cn)) (.raw (.slice ar nr cr)) (.raw (.slice at_ nt ct)) (.raw u4) (.raw u5) (.raw u6)), (dB 0 0 0 (.raw (.slice none 0 0)) (.raw (.slice none 0 0)) 0 0 0 0 0 0 0 0 0 0 (.raw (.slice none 0 0)) (.raw (.slice none 0 0)) (.raw (.slice none 0 0))), (dB d0 d1 d2 (.raw L) (.raw (.slice al nl cl)) d3 d4 d5 d6 d7 d8 d9 d10 d11 d12 (.raw S0) (.raw S1) (.raw S2)), .seg Y, .seg J, .blk .fix [(sI (wn p1 0 3)), (sI (IntKind.wrap .i64 (1 + (wn p0 0 (IntKind.wrap .i64 (Int.tdiv s_ 6)))))), (sI (wn p2 0 1200))]]) = some ((.slice a2 n2 c2), denH [.seg H, (kB k0 k1 k2 k3 k4 k5 k6 k7 k8 k9 k10 k11 k12 (.raw u0) (.raw (.slice an nn cn)) (.raw (.slice ar nr cr)) (.raw (.slice at_ nt ct)) (.raw u4) (.raw u5) (.raw u6)), (dB 0 0 0 (.raw (.slice none 0 0)) (.raw (.slice none 0 0)) 0 0 0 0 0 0 0 0 0 0 (.raw (.slice none 0 0)) (.raw (.slice none 0 0)) (.raw (.slice none 0 0))), (dB d0 d1 d2 (.raw L) (.raw (.slice al nl cl)) d3 d4 d5 d6 d7 d8 d9 d10 d11 d12 (.raw S0) (.raw S1) (.raw S2)), .seg Y, .seg J2, .blk .fix [(sI (wn p1 0 3)), (sI (IntKind.wrap .i64 (1 + (wn p0 0 (IntKind.wrap .i64 (Int.tdiv s_ 6)))))), (sI (wn p2 0 1200))], .seg X]))
 (.req true (.req true (.req (eqV (.slice al nl cl) (.slice al nl cl)) (.req (eqV (.slice al nl cl) (.slice al nl cl)) (.req (eqV (.slice al nl cl) (.slice al nl cl)) (.req (eqV (.slice al nl cl) (.slice al nl cl)) (.req (eqV (.slice at_ nt ct) (.slice at_ nt ct)) (.req (eqV (.slice at_ nt ct) (.slice at_ nt ct)) (.ret .normal (frS 192 [(1, (.ptr 1 0)), (2, (.ptr 2 0)), (3, (.ptr 3 0)), (4, (sI s_)), (7, (sI (IntKind.wrap .i64 (i + 1))))]) [.seg H, (kB k0 k1 k2 k3 k4 k5 k6 k7 k8 k9 k10 k11 k12 (.raw u0) (.raw (.slice an nn cn)) (.raw (.slice ar nr cr)) (.raw (.slice at_ nt ct)) (.raw u4) (.raw u5) (.raw u6)), (dB 0 0 0 (.raw (.slice none 0 0)) (.raw (.slice none 0 0)) 0 0 0 0 0 0 0 0 0 0 (.raw (.slice none 0 0)) (.raw (.slice none 0 0)) (.raw (.slice none 0 0))), (dB d0 d1 d2 (.raw L) (.raw (.slice a2 n2 c2)) d3 d4 d5 d6 d7 d8 d9 d10 d11 d12 (.raw S0) (.raw S1) (.raw S2)), .seg Y, .seg J2, .blk .fix [(sI (wn p1 0 3)), (sI (IntKind.wrap .i64 (1 + (wn p0 0 (IntKind.wrap .i64 (Int.tdiv s_ 6)))))), (sI (wn p2 0 1200))], .seg X])))))))))))))))))))))))))))))
 (.ret (.exit 2) (frS 192 [(1, (.ptr 1 0)), (2, (.ptr 2 0)), (3, (.ptr 3 0)), (4, (sI s_)), (7, (sI i))]) [.seg H, (kB k0 k1 k2 k3 k4 k5 k6 k7 k8 k9 k10 k11 k12 (.raw u0) (.raw (.slice an nn cn)) (.raw (.slice ar nr cr)) (.raw (.slice at_ nt ct)) (.raw u4) (.raw u5) (.raw u6)), (dB 0 0 0 (.raw (.slice none 0 0)) (.raw (.slice none 0 0)) 0 0 0 0 0 0 0 0 0 0 (.raw (.slice none 0 0)) (.raw (.slice none 0 0)) (.raw (.slice none 0 0))), (dB d0 d1 d2 (.raw L) (.raw (.slice al nl cl)) d3 d4 d5 d6 d7 d8 d9 d10 d11 d12 (.raw S0) (.raw S1) (.raw S2)), .seg Y, .seg J]))) := by kernel_rfl
def body41_8 : IL := .seq (.reg [
    ⟨(some 160), none, .bin .lss (.tmp 159) (.tmp 158)⟩])
 (.seq (.ite (.tmp 160)
    (.skip)
    (.exit 8))
 (.seq (.block 9
    (.seq (.reg [
       ⟨(some 161), none, .iadr 2 none (.tmp 157) (.tmp 159)⟩,
       ⟨(some 162), none, .load (.tmp 161) (some 2)⟩,
       ⟨(some 15), none, .alloc [(.int .i64 0), (.int .i64 0)]⟩,
       ⟨none, none, .store (.tmp 15) (.tmp 162) 2⟩])
    (.reg [
      ⟨(some 163), none, .mov (.tmp 13)⟩,
      ⟨(some 164), none, .mov (.tmp 163)⟩,
      ⟨(some 165), (some (164, false)), .load (.tmp 15) (some 2)⟩,
      ⟨(some 166), (some (164, false)), .load (.tmp 12) (some 2)⟩,
      ⟨(some 167), (some (164, false)), .eqv false (.cells [false, false]) (.tmp 165) (.tmp 166)⟩,
      ⟨(some 168), none, .pick (.tmp 164) (.const (.bool true)) (.tmp 167)⟩,
      ⟨(some 13), none, .mov (.tmp 168)⟩])))
 (.reg [
   ⟨(some 169), none, .bin .add (.tmp 159) (.const (.int .i64 1))⟩,
   ⟨(some 159), none, .mov (.tmp 169)⟩])))
def hn41c (k0 k1 k2 k3 k4 k5 k6 k7 k8 k9 k10 k11 k12 d0 d1 d2 d3 d4 d5 d6 d7 d8 d9 d10 d11 d12 : Int) (u0 u1 u2 u3 u4 u5 u6 L N S0 S1 S2 : Value) (al : Option Addr) (nl cl : Nat) (m i j x0 x1 y0 y1 : Int) (q : Bool) (b1 o1 : Nat) (H Y J K : Heap) : Hs := (.sym (.pur 22000161 (.pointer (some ⟨b1, o1, none⟩)) (.use 7000162 (.raw (.agg ⟨[(.int .i64 y0), (.int .i64 y1)]⟩)) ⟨[], []⟩ (.join 4 (.con (.con (.con (.con .nil)))) (.con (.con (.con (.con .nil)))) .nil))) .nil)
theorem tree41c (k0 k1 k2 k3 k4 k5 k6 k7 k8 k9 k10 k11 k12 d0 d1 d2 d3 d4 d5 d6 d7 d8 d9 d10 d11 d12 : Int) (u0 u1 u2 u3 u4 u5 u6 L N S0 S1 S2 : Value) (al : Option Addr) (nl cl : Nat) (m i j x0 x1 y0 y1 : Int) (q : Bool) (b1 o1 : Nat) (H Y J K : Heap) : pieceS tblK (gE 0) (cE 0) 100 (fun i => exL i body41_8 || inL [1, 2, 3, 9, 10, 11, 12, 13, 119] i) body41_8 (hn41c k0 k1 k2 k3 k4 k5 k6 k7 k8 k9 k10 k11 k12 d0 d1 d2 d3 d4 d5 d6 d7 d8 d9 d10 d11 d12 u0 u1 u2 u3 u4 u5 u6 L N S0 S1 S2 al nl cl m i j x0 x1 y0 y1 q b1 o1 H Y J K) (frS 192 [(1, (.ptr 1 0)), (2, (.ptr 2 0)), (3, (.ptr 3 0)), (9, (sI m)), (10, (.raw (.slice al nl cl))), (11, (sI i)), (12, (.ptr 6 0)), (13, (sB q)), (119, (sI m)), (157, (.raw (.slice al nl cl))), (158, (sI (nl : Int))), (159, (sI j))]) [.seg H, (kB k0 k1 k2 k3 k4 k5 k6 k7 k8 k9 k10 k11 k12 (.raw u0) (.raw u1) (.raw u2) (.raw u3) (.raw u4) (.raw u5) (.raw u6)), (dB 0 0 0 (.raw (.slice none 0 0)) (.raw (.slice none 0 0)) 0 0 0 0 0 0 0 0 0 0 (.raw (.slice none 0 0)) (.raw (.slice none 0 0)) (.raw (.slice none 0 0))), (dB d0 d1 d2 (.raw L) (.raw N) d3 d4 d5 d6 d7 d8 d9 d10 d11 d12 (.raw S0) (.raw S1) (.raw S2)), .seg Y, .seg J, .blk .fix [(sI x0), (sI x1)], .seg K] =
(.br (decide (j < (nl : Int)))
 (.claim (opA (Plain.env tblK (gE 0)) (.iadr 2 none (.const (.slice al nl cl)) (.const (.int .i64 j))) [] [] = some ((.pointer (some ⟨b1, o1, none⟩)), []))
 (.claim (opA (Plain.env tblK (gE 0)) (.load (.const (.pointer (some ⟨b1, o1, none⟩))) (some 2)) [] (denH [.seg H, (kB k0 k1 k2 k3 k4 k5 k6 k7 k8 k9 k10 k11 k12 (.raw u0) (.raw u1) (.raw u2) (.raw u3) (.raw u4) (.raw u5) (.raw u6)), (dB 0 0 0 (.raw (.slice none 0 0)) (.raw (.slice none 0 0)) 0 0 0 0 0 0 0 0 0 0 (.raw (.slice none 0 0)) (.raw (.slice none 0 0)) (.raw (.slice none 0 0))), (dB d0 d1 d2 (.raw L) (.raw N) d3 d4 d5 d6 d7 d8 d9 d10 d11 d12 (.raw S0) (.raw S1) (.raw S2)), .seg Y, .seg J, .blk .fix [(sI x0), (sI x1)], .seg K]) = some ((.agg ⟨[(.int .i64 y0), (.int .i64 y1)]⟩), denH [.seg H, (kB k0 k1 k2 k3 k4 k5 k6 k7 k8 k9 k10 k11 k12 (.raw u0) (.raw u1) (.raw u2) (.raw u3) (.raw u4) (.raw u5) (.raw u6)), (dB 0 0 0 (.raw (.slice none 0 0)) (.raw (.slice none 0 0)) 0 0 0 0 0 0 0 0 0 0 (.raw (.slice none 0 0)) (.raw (.slice none 0 0)) (.raw (.slice none 0 0))), (dB d0 d1 d2 (.raw L) (.raw N) d3 d4 d5 d6 d7 d8 d9 d10 d11 d12 (.raw S0) (.raw S1) (.raw S2)), .seg Y, .seg J, .blk .fix [(sI x0), (sI x1)], .seg K]))
 (.req (bif q then true else true) (.ret .normal (frS 192 [(1, (.ptr 1 0)), (2, (.ptr 2 0)), (3, (.ptr 3 0)), (9, (sI m)), (10, (.raw (.slice al nl cl))), (11, (sI i)), (12, (.ptr 6 0)), (13, (sB (bif q then true else ((y0 == x0) && ((y1 == x1) && true))))), (119, (sI m)), (157, (.raw (.slice al nl cl))), (158, (sI (nl : Int))), (159, (sI (IntKind.wrap .i64 (j + 1))))]) [.seg H, (kB k0 k1 k2 k3 k4 k5 k6 k7 k8 k9 k10 k11 k12 (.raw u0) (.raw u1) (.raw u2) (.raw u3) (.raw u4) (.raw u5) (.raw u6)), (dB 0 0 0 (.raw (.slice none 0 0)) (.raw (.slice none 0 0)) 0 0 0 0 0 0 0 0 0 0 (.raw (.slice none 0 0)) (.raw (.slice none 0 0)) (.raw (.slice none 0 0))), (dB d0 d1 d2 (.raw L) (.raw N) d3 d4 d5 d6 d7 d8 d9 d10 d11 d12 (.raw S0) (.raw S1) (.raw S2)), .seg Y, .seg J, .blk .fix [(sI x0), (sI x1)], .seg K, .blk .fix [(sI y0), (sI y1)]]))))
 (.ret (.exit 8) (frS 192 [(1, (.ptr 1 0)), (2, (.ptr 2 0)), (3, (.ptr 3 0)), (9, (sI m)), (10, (.raw (.slice al nl cl))), (11, (sI i)), (12, (.ptr 6 0)), (13, (sB q)), (119, (sI m)), (157, (.raw (.slice al nl cl))), (158, (sI (nl : Int))), (159, (sI j))]) [.seg H, (kB k0 k1 k2 k3 k4 k5 k6 k7 k8 k9 k10 k11 k12 (.raw u0) (.raw u1) (.raw u2) (.raw u3) (.raw u4) (.raw u5) (.raw u6)), (dB 0 0 0 (.raw (.slice none 0 0)) (.raw (.slice none 0 0)) 0 0 0 0 0 0 0 0 0 0 (.raw (.slice none 0 0)) (.raw (.slice none 0 0)) (.raw (.slice none 0 0))), (dB d0 d1 d2 (.raw L) (.raw N) d3 d4 d5 d6 d7 d8 d9 d10 d11 d12 (.raw S0) (.raw S1) (.raw S2)), .seg Y, .seg J, .blk .fix [(sI x0), (sI x1)], .seg K])) := by kernel_rfl
end E1
open E1
def sumB (l : List R2) : Int := (l.map (·.b)).sum
theorem sumB_b : ∀ (l : List R2), (∀ x ∈ l, 0 ≤ x.b ∧ x.b ≤ 100000) → 0 ≤ sumB l ∧ sumB l ≤ 100000 * l.length
  | [], _ => by simp [sumB]
  | x :: r, h => by
    have h1 := h x (by simp)
    have h2 := sumB_b r fun y hy => h y (List.mem_cons_of_mem _ hy)
    simp only [sumB, List.map_cons, List.sum_cons, List.length_cons] at h2 ⊢
    omega
theorem loopA {H Y : Heap} {k0 k1 k2 k3 k4 k5 k6 k7 k8 k9 k10 k11 k12 d0 d1 d2 d3 d4 d5 d6 d7 d8 d9 d10 d11 d12 : Int} {u0 u1 u2 u3 u4 u5 u6 L N S0 S1 S2 : Value} {al : Option Addr} {cl : Nat} {l : List R2} (ha : RowsW 2 (denH [.seg H, kB k0 k1 k2 k3 k4 k5 k6 k7 k8 k9 k10 k11 k12 (.raw u0) (.raw u1) (.raw u2) (.raw u3) (.raw u4) (.raw u5) (.raw u6), dB 0 0 0 (.raw (.slice none 0 0)) (.raw (.slice none 0 0)) 0 0 0 0 0 0 0 0 0 0 (.raw (.slice none 0 0)) (.raw (.slice none 0 0)) (.raw (.slice none 0 0)), dB d0 d1 d2 (.raw L) (.raw N) d3 d4 d5 d6 d7 d8 d9 d10 d11 d12 (.raw S0) (.raw S1) (.raw S2), .seg Y]) (.slice al l.length cl) (l.map e2)) (hl : l.length ≤ 100) (hb : ∀ x ∈ l, 0 ≤ x.b ∧ x.b ≤ 100000) :
    Wp (Plain.env tblK (gE 0)) (inL [1, 2, 3, 4]) (.block 0 (.loop body41_0)) (denF [.seg H, kB k0 k1 k2 k3 k4 k5 k6 k7 k8 k9 k10 k11 k12 (.raw u0) (.raw u1) (.raw u2) (.raw u3) (.raw u4) (.raw u5) (.raw u6), dB 0 0 0 (.raw (.slice none 0 0)) (.raw (.slice none 0 0)) 0 0 0 0 0 0 0 0 0 0 (.raw (.slice none 0 0)) (.raw (.slice none 0 0)) (.raw (.slice none 0 0)), dB d0 d1 d2 (.raw L) (.raw N) d3 d4 d5 d6 d7 d8 d9 d10 d11 d12 (.raw S0) (.raw S1) (.raw S2), .seg Y] (frS 192 [(1, (.ptr 1 0)), (2, (.ptr 2 0)), (3, (.ptr 3 0)), (4, (sI 0)), (71, (.raw (.slice al l.length cl))), (72, (sI (l.length : Int))), (73, (sI 0))])) (denH [.seg H, kB k0 k1 k2 k3 k4 k5 k6 k7 k8 k9 k10 k11 k12 (.raw u0) (.raw u1) (.raw u2) (.raw u3) (.raw u4) (.raw u5) (.raw u6), dB 0 0 0 (.raw (.slice none 0 0)) (.raw (.slice none 0 0)) 0 0 0 0 0 0 0 0 0 0 (.raw (.slice none 0 0)) (.raw (.slice none 0 0)) (.raw (.slice none 0 0)), dB d0 d1 d2 (.raw L) (.raw N) d3 d4 d5 d6 d7 d8 d9 d10 d11 d12 (.raw S0) (.raw S1) (.raw S2), .seg Y]) fun e s h => ∃ X : Heap, e = .normal ∧ s = denF [.seg H, kB k0 k1 k2 k3 k4 k5 k6 k7 k8 k9 k10 k11 k12 (.raw u0) (.raw u1) (.raw u2) (.raw u3) (.raw u4) (.raw u5) (.raw u6), dB 0 0 0 (.raw (.slice none 0 0)) (.raw (.slice none 0 0)) 0 0 0 0 0 0 0 0 0 0 (.raw (.slice none 0 0)) (.raw (.slice none 0 0)) (.raw (.slice none 0 0)), dB d0 d1 d2 (.raw L) (.raw N) d3 d4 d5 d6 d7 d8 d9 d10 d11 d12 (.raw S0) (.raw S1) (.raw S2), .seg Y, .seg X] (frS 192 [(1, (.ptr 1 0)), (2, (.ptr 2 0)), (3, (.ptr 3 0)), (4, (sI (sumB l)))]) ∧ h = denH [.seg H, kB k0 k1 k2 k3 k4 k5 k6 k7 k8 k9 k10 k11 k12 (.raw u0) (.raw u1) (.raw u2) (.raw u3) (.raw u4) (.raw u5) (.raw u6), dB 0 0 0 (.raw (.slice none 0 0)) (.raw (.slice none 0 0)) 0 0 0 0 0 0 0 0 0 0 (.raw (.slice none 0 0)) (.raw (.slice none 0 0)) (.raw (.slice none 0 0)), dB d0 d1 d2 (.raw L) (.raw N) d3 d4 d5 d6 d7 d8 d9 d10 d11 d12 (.raw S0) (.raw S1) (.raw S2), .seg Y, .seg X] := by
  refine Wp.bl (fun m t h => ∃ (i : Nat) (J : Heap), i + m = l.length ∧ t = denF [.seg H, kB k0 k1 k2 k3 k4 k5 k6 k7 k8 k9 k10 k11 k12 (.raw u0) (.raw u1) (.raw u2) (.raw u3) (.raw u4) (.raw u5) (.raw u6), dB 0 0 0 (.raw (.slice none 0 0)) (.raw (.slice none 0 0)) 0 0 0 0 0 0 0 0 0 0 (.raw (.slice none 0 0)) (.raw (.slice none 0 0)) (.raw (.slice none 0 0)), dB d0 d1 d2 (.raw L) (.raw N) d3 d4 d5 d6 d7 d8 d9 d10 d11 d12 (.raw S0) (.raw S1) (.raw S2), .seg Y, .seg J] (frS 192 [(1, (.ptr 1 0)), (2, (.ptr 2 0)), (3, (.ptr 3 0)), (4, (sI (sumB (l.take i)))), (71, (.raw (.slice al l.length cl))), (72, (sI (l.length : Int))), (73, (sI i))]) ∧ h = denH [.seg H, kB k0 k1 k2 k3 k4 k5 k6 k7 k8 k9 k10 k11 k12 (.raw u0) (.raw u1) (.raw u2) (.raw u3) (.raw u4) (.raw u5) (.raw u6), dB 0 0 0 (.raw (.slice none 0 0)) (.raw (.slice none 0 0)) 0 0 0 0 0 0 0 0 0 0 (.raw (.slice none 0 0)) (.raw (.slice none 0 0)) (.raw (.slice none 0 0)), dB d0 d1 d2 (.raw L) (.raw N) d3 d4 d5 d6 d7 d8 d9 d10 d11 d12 (.raw S0) (.raw S1) (.raw S2), .seg Y, .seg J]) ?_ l.length _ _
    ⟨0, [], by omega, by show denF _ _ = denF _ _; kernel_rfl, by simp [denH, denL, It.den, den0, e2, e3]⟩
  rintro m t h ⟨i, J, hi, rfl, rfl⟩
  by_cases hlt : i < l.length
  · obtain ⟨x, hx⟩ := getE hlt
    have hJ : RowsW 2 (denH [.seg H, kB k0 k1 k2 k3 k4 k5 k6 k7 k8 k9 k10 k11 k12 (.raw u0) (.raw u1) (.raw u2) (.raw u3) (.raw u4) (.raw u5) (.raw u6), dB 0 0 0 (.raw (.slice none 0 0)) (.raw (.slice none 0 0)) 0 0 0 0 0 0 0 0 0 0 (.raw (.slice none 0 0)) (.raw (.slice none 0 0)) (.raw (.slice none 0 0)), dB d0 d1 d2 (.raw L) (.raw N) d3 d4 d5 d6 d7 d8 d9 d10 d11 d12 (.raw S0) (.raw S1) (.raw S2), .seg Y, .seg J]) (.slice al l.length cl) (l.map e2) := ha.up (X := [.seg J]) rfl
    obtain ⟨b1, o1, r1⟩ := hJ.rowM hx
    have h1 := sumB_b (l.take i) fun y hy => hb y (List.mem_of_mem_take hy)
    have h2 := hb x (List.mem_of_getElem? hx)
    have hl2 : (l.take i).length ≤ 100 := by rw [List.length_take]; omega
    have hs : sumB (l.take (i + 1)) = sumB (l.take i) + x.b := by rw [WB.take_one hx]; simp [sumB]
    refine Wp.tree (cE_ok 0) (tree41a k0 k1 k2 k3 k4 k5 k6 k7 k8 k9 k10 k11 k12 d0 d1 d2 d3 d4 d5 d6 d7 d8 d9 d10 d11 d12 u0 u1 u2 u3 u4 u5 u6 L N S0 S1 S2 al l.length cl i (sumB (l.take i)) x.a x.b b1 o1 H Y J) ⟨rfl, rfl⟩ ⟨fun _ => ⟨r1.ptr _ _, r1.all _, end_next (m - 1) (by omega) ⟨i + 1, J ++ [some ⟨.fix, e2 x⟩], by omega, ?_, by simp [denH, denL, It.den, den0, e2, e3]⟩⟩, fun q => by simp at q; omega⟩
    rw [hs, wrap64 (x := (i : Int) + 1) (by omega) (by omega), wrap64 (x := sumB (l.take i) + x.b) (by omega) (by omega)]
    show denF _ _ = denF _ _
    kernel_rfl
  · have hil : i = l.length := by omega
    refine Wp.tree (cE_ok 0) (tree41a k0 k1 k2 k3 k4 k5 k6 k7 k8 k9 k10 k11 k12 d0 d1 d2 d3 d4 d5 d6 d7 d8 d9 d10 d11 d12 u0 u1 u2 u3 u4 u5 u6 L N S0 S1 S2 al l.length cl i (sumB (l.take i)) 0 0 0 0 H Y J) ⟨rfl, rfl⟩ ⟨fun q => by simp at q; omega, fun _ => end_exit ⟨J, rfl, ?_, rfl⟩⟩
    rw [hil, List.take_length]
    show denF _ _ = denF _ _
    kernel_rfl
/-- A note of numbers. -/
def noteAt (no ra rt : List Int) (p : Int) (i : Nat) : R3 := ⟨wn (pk ra i) 0 3, 1 + wn (pk no i) 0 (Int.tdiv p 6), wn (pk rt i) 0 1200⟩
def notesF (no ra rt : List Int) (p : Int) : List R3 := (List.range (min (1 + no.length) 5)).map (noteAt no ra rt p)
theorem loopB {H Y : Heap} {k0 k1 k2 k3 k4 k5 k6 k7 k8 k9 k10 k11 k12 d0 d1 d2 d3 d4 d5 d6 d7 d8 d9 d10 d11 d12 : Int} {u0 u1 u2 u3 u4 u5 u6 L N S0 S1 S2 : Value} {an ar at_ : Option Addr} {cn cr ct : Nat} {no ra rt : List Int} {p : Int} (hn : RowsW 1 H (.slice an no.length cn) (no.map ir)) (hr : RowsW 1 H (.slice ar ra.length cr) (ra.map ir)) (ht : RowsW 1 H (.slice at_ rt.length ct) (rt.map ir)) (hln : no.length ≤ 140737488355328) (hp : 0 ≤ p ∧ p ≤ 100000000) :
    Wp (Plain.env tblK (gE 0)) (inL [1, 2, 3]) (.block 2 (.loop body41_2)) (denF [.seg H, kB k0 k1 k2 k3 k4 k5 k6 k7 k8 k9 k10 k11 k12 (.raw u0) (.raw (.slice an no.length cn)) (.raw (.slice ar ra.length cr)) (.raw (.slice at_ rt.length ct)) (.raw u4) (.raw u5) (.raw u6), dB 0 0 0 (.raw (.slice none 0 0)) (.raw (.slice none 0 0)) 0 0 0 0 0 0 0 0 0 0 (.raw (.slice none 0 0)) (.raw (.slice none 0 0)) (.raw (.slice none 0 0)), dB d0 d1 d2 (.raw L) (.raw (.slice none 0 0)) d3 d4 d5 d6 d7 d8 d9 d10 d11 d12 (.raw S0) (.raw S1) (.raw S2), .seg Y] (frS 192 [(1, (.ptr 1 0)), (2, (.ptr 2 0)), (3, (.ptr 3 0)), (4, (sI p)), (7, (sI 0))])) (denH [.seg H, kB k0 k1 k2 k3 k4 k5 k6 k7 k8 k9 k10 k11 k12 (.raw u0) (.raw (.slice an no.length cn)) (.raw (.slice ar ra.length cr)) (.raw (.slice at_ rt.length ct)) (.raw u4) (.raw u5) (.raw u6), dB 0 0 0 (.raw (.slice none 0 0)) (.raw (.slice none 0 0)) 0 0 0 0 0 0 0 0 0 0 (.raw (.slice none 0 0)) (.raw (.slice none 0 0)) (.raw (.slice none 0 0)), dB d0 d1 d2 (.raw L) (.raw (.slice none 0 0)) d3 d4 d5 d6 d7 d8 d9 d10 d11 d12 (.raw S0) (.raw S1) (.raw S2), .seg Y]) fun e s h => ∃ (X : Heap) (al : Option Addr) (i cl : Nat), (e = .normal ∧ s = denF [.seg H, kB k0 k1 k2 k3 k4 k5 k6 k7 k8 k9 k10 k11 k12 (.raw u0) (.raw (.slice an no.length cn)) (.raw (.slice ar ra.length cr)) (.raw (.slice at_ rt.length ct)) (.raw u4) (.raw u5) (.raw u6), dB 0 0 0 (.raw (.slice none 0 0)) (.raw (.slice none 0 0)) 0 0 0 0 0 0 0 0 0 0 (.raw (.slice none 0 0)) (.raw (.slice none 0 0)) (.raw (.slice none 0 0)), dB d0 d1 d2 (.raw L) (.raw (.slice al i cl)) d3 d4 d5 d6 d7 d8 d9 d10 d11 d12 (.raw S0) (.raw S1) (.raw S2), .seg Y, .seg X] (frS 192 [(1, (.ptr 1 0)), (2, (.ptr 2 0)), (3, (.ptr 3 0))]) ∧ h = denH [.seg H, kB k0 k1 k2 k3 k4 k5 k6 k7 k8 k9 k10 k11 k12 (.raw u0) (.raw (.slice an no.length cn)) (.raw (.slice ar ra.length cr)) (.raw (.slice at_ rt.length ct)) (.raw u4) (.raw u5) (.raw u6), dB 0 0 0 (.raw (.slice none 0 0)) (.raw (.slice none 0 0)) 0 0 0 0 0 0 0 0 0 0 (.raw (.slice none 0 0)) (.raw (.slice none 0 0)) (.raw (.slice none 0 0)), dB d0 d1 d2 (.raw L) (.raw (.slice al i cl)) d3 d4 d5 d6 d7 d8 d9 d10 d11 d12 (.raw S0) (.raw S1) (.raw S2), .seg Y, .seg X]) ∧ LsS 3 (denH [.seg H, kB k0 k1 k2 k3 k4 k5 k6 k7 k8 k9 k10 k11 k12 (.raw u0) (.raw (.slice an no.length cn)) (.raw (.slice ar ra.length cr)) (.raw (.slice at_ rt.length ct)) (.raw u4) (.raw u5) (.raw u6), dB 0 0 0 (.raw (.slice none 0 0)) (.raw (.slice none 0 0)) 0 0 0 0 0 0 0 0 0 0 (.raw (.slice none 0 0)) (.raw (.slice none 0 0)) (.raw (.slice none 0 0)), dB d0 d1 d2 (.raw L) (.raw (.slice none 0 0)) d3 d4 d5 d6 d7 d8 d9 d10 d11 d12 (.raw S0) (.raw S1) (.raw S2), .seg Y]) X (.slice al i cl) ((notesF no ra rt p).map e3) := by
  refine Wp.bl (fun m t h => ∃ (i : Nat) (J : Heap) (al : Option Addr) (cl : Nat), i + m = min (1 + no.length) 5 ∧ t = denF [.seg H, kB k0 k1 k2 k3 k4 k5 k6 k7 k8 k9 k10 k11 k12 (.raw u0) (.raw (.slice an no.length cn)) (.raw (.slice ar ra.length cr)) (.raw (.slice at_ rt.length ct)) (.raw u4) (.raw u5) (.raw u6), dB 0 0 0 (.raw (.slice none 0 0)) (.raw (.slice none 0 0)) 0 0 0 0 0 0 0 0 0 0 (.raw (.slice none 0 0)) (.raw (.slice none 0 0)) (.raw (.slice none 0 0)), dB d0 d1 d2 (.raw L) (.raw (.slice al i cl)) d3 d4 d5 d6 d7 d8 d9 d10 d11 d12 (.raw S0) (.raw S1) (.raw S2), .seg Y, .seg J] (frS 192 [(1, (.ptr 1 0)), (2, (.ptr 2 0)), (3, (.ptr 3 0)), (4, (sI p)), (7, (sI i))]) ∧ h = denH [.seg H, kB k0 k1 k2 k3 k4 k5 k6 k7 k8 k9 k10 k11 k12 (.raw u0) (.raw (.slice an no.length cn)) (.raw (.slice ar ra.length cr)) (.raw (.slice at_ rt.length ct)) (.raw u4) (.raw u5) (.raw u6), dB 0 0 0 (.raw (.slice none 0 0)) (.raw (.slice none 0 0)) 0 0 0 0 0 0 0 0 0 0 (.raw (.slice none 0 0)) (.raw (.slice none 0 0)) (.raw (.slice none 0 0)), dB d0 d1 d2 (.raw L) (.raw (.slice al i cl)) d3 d4 d5 d6 d7 d8 d9 d10 d11 d12 (.raw S0) (.raw S1) (.raw S2), .seg Y, .seg J] ∧ LsS 3 (denH [.seg H, kB k0 k1 k2 k3 k4 k5 k6 k7 k8 k9 k10 k11 k12 (.raw u0) (.raw (.slice an no.length cn)) (.raw (.slice ar ra.length cr)) (.raw (.slice at_ rt.length ct)) (.raw u4) (.raw u5) (.raw u6), dB 0 0 0 (.raw (.slice none 0 0)) (.raw (.slice none 0 0)) 0 0 0 0 0 0 0 0 0 0 (.raw (.slice none 0 0)) (.raw (.slice none 0 0)) (.raw (.slice none 0 0)), dB d0 d1 d2 (.raw L) (.raw (.slice none 0 0)) d3 d4 d5 d6 d7 d8 d9 d10 d11 d12 (.raw S0) (.raw S1) (.raw S2), .seg Y]) J (.slice al i cl) (((List.range i).map (noteAt no ra rt p)).map e3)) ?_ (min (1 + no.length) 5) _ _
    ⟨0, [], none, 0, by omega, by show denF _ _ = denF _ _; kernel_rfl, by simp [denH, denL, It.den, den0, e2, e3], .inl ⟨rfl, rfl⟩⟩
  rintro m t h ⟨i, J, al, cl, hi, rfl, rfl, hl⟩
  have w1 : IntKind.wrap .i64 (1 + (no.length : Int)) = 1 + (no.length : Int) := wrap64 (by omega) (by omega)
  have w6 : IntKind.wrap .i64 (Int.tdiv p 6) = Int.tdiv p 6 := by
    have a := Int.tdiv_eq_ediv_of_nonneg (b := 6) hp.1
    rw [a]
    exact wrap64 (by omega) (by omega)
  by_cases hlt : i < min (1 + no.length) 5
  · have hq6 : 0 ≤ Int.tdiv p 6 ∧ Int.tdiv p 6 ≤ 100000000 := by rw [Int.tdiv_eq_ediv_of_nonneg hp.1]; omega
    have hw6 : preWithin 0 (IntKind.wrap .i64 (Int.tdiv p 6)) = true := by rw [w6]; simp [preWithin]; omega
    have wb := wn_lo (x := pk no i) hq6.1
    have wh := wn_hi (x := pk no i) hq6.1
    have w7 : IntKind.wrap .i64 (1 + wn (pk no i) 0 (IntKind.wrap .i64 (Int.tdiv p 6))) = 1 + wn (pk no i) 0 (Int.tdiv p 6) := by rw [w6, wrap64 (by omega) (by omega)]
    have hb : (LsS 3 (denH [.seg H, kB k0 k1 k2 k3 k4 k5 k6 k7 k8 k9 k10 k11 k12 (.raw u0) (.raw (.slice an no.length cn)) (.raw (.slice ar ra.length cr)) (.raw (.slice at_ rt.length ct)) (.raw u4) (.raw u5) (.raw u6), dB 0 0 0 (.raw (.slice none 0 0)) (.raw (.slice none 0 0)) 0 0 0 0 0 0 0 0 0 0 (.raw (.slice none 0 0)) (.raw (.slice none 0 0)) (.raw (.slice none 0 0)), dB d0 d1 d2 (.raw L) (.raw (.slice al i cl)) d3 d4 d5 d6 d7 d8 d9 d10 d11 d12 (.raw S0) (.raw S1) (.raw S2), .seg Y]) J (.slice al i cl) (((List.range i).map (noteAt no ra rt p)).map e3)) := hl.base (by simp [denH, denL, It.den])
    obtain ⟨a2, c2, J2, X, q1, q2, q3⟩ := appRow (I := [.seg H, kB k0 k1 k2 k3 k4 k5 k6 k7 k8 k9 k10 k11 k12 (.raw u0) (.raw (.slice an no.length cn)) (.raw (.slice ar ra.length cr)) (.raw (.slice at_ rt.length ct)) (.raw u4) (.raw u5) (.raw u6), dB 0 0 0 (.raw (.slice none 0 0)) (.raw (.slice none 0 0)) 0 0 0 0 0 0 0 0 0 0 (.raw (.slice none 0 0)) (.raw (.slice none 0 0)) (.raw (.slice none 0 0)), dB d0 d1 d2 (.raw L) (.raw (.slice al i cl)) d3 d4 d5 d6 d7 d8 d9 d10 d11 d12 (.raw S0) (.raw S1) (.raw S2), .seg Y]) (R := []) (R0 := []) (w := 3) (eby := 24) (row := e3 (noteAt no ra rt p i)) (cs := [sI (wn (pk ra i) 0 3), sI (1 + wn (pk no i) 0 (Int.tdiv p 6)), sI (wn (pk rt i) 0 1200)]) rfl (fun _ => rfl) hb (fun _ => rfl) rfl (by decide) (by simp; omega) (by simp; omega)
    have hlen : (((List.range i).map (noteAt no ra rt p)).map e3).length = i := by simp
    rw [hlen] at q2 q3
    have c76 : ∀ (l : List Int) (s : Value) (hs : RowsW 1 H s (l.map ir)) (X : SH), gK 76 [s, .int .i64 (i : Int)] (denH (.seg H :: X)) = some (.int .i64 (pk l i), denH (.seg H :: X)) := fun l s hs X => call76 (D.up1 hs X) (by omega)
    refine Wp.tree (cE_ok 0) (tree41b k0 k1 k2 k3 k4 k5 k6 k7 k8 k9 k10 k11 k12 d0 d1 d2 d3 d4 d5 d6 d7 d8 d9 d10 d11 d12 u0 u1 u2 u3 u4 u5 u6 L N S0 S1 S2 an ar at_ al a2 no.length cn ra.length cr rt.length ct i cl (i + 1) c2 i p (pk no i) (pk ra i) (pk rt i) H Y J J2 X) ⟨rfl, rfl⟩ ⟨bif_tt _, ⟨fun hb0 => ⟨opA_call (args := [_, _]) rfl (c76 _ _ hn _), ⟨rfl, ⟨hw6, ⟨rfl, ⟨rfl, ⟨rfl, ⟨rfl, ⟨rfl, ⟨opA_call (args := [_, _]) rfl (c76 _ _ hr _), ⟨rfl, ⟨rfl, ⟨rfl, ⟨rfl, ⟨rfl, ⟨opA_call (args := [_, _]) rfl (c76 _ _ ht _), ⟨rfl, ⟨rfl, ⟨rfl, ⟨q1, ⟨?_, ⟨rfl, ⟨rfl, ⟨eqV_slc _ _ _, ⟨eqV_slc _ _ _, ⟨eqV_slc _ _ _, ⟨eqV_slc _ _ _, ⟨eqV_slc _ _ _, ⟨eqV_slc _ _ _, ?_⟩⟩⟩⟩⟩⟩⟩⟩⟩⟩⟩⟩⟩⟩⟩⟩⟩⟩⟩⟩⟩⟩⟩⟩⟩⟩⟩⟩, fun hb0 => ?_⟩⟩
    · rw [w7]; exact q2 (Plain.env tblK (gE 0))
    · refine end_next (m - 1) (by omega) ⟨i + 1, J2 ++ (some ⟨.fix, e3 (noteAt no ra rt p i)⟩ :: X), a2, c2, by omega, ?_, by rw [w7]; simp [denH, denL, It.den, den0, e3, noteAt], ?_⟩
      · rw [wrap64 (x := (i : Int) + 1) (by omega) (by omega), w7]; show denF _ _ = denF _ _; kernel_rfl
      · rw [List.range_succ, List.map_append, List.map_append]
        exact q3.base (by simp [denH, denL, It.den])
    · rw [w1] at hb0; simp [Bool.cond_eq_ite] at hb0; omega
  · have hil : i = min (1 + no.length) 5 := by omega
    have c76 : ∀ (l : List Int) (s : Value) (hs : RowsW 1 H s (l.map ir)) (X : SH), gK 76 [s, .int .i64 (i : Int)] (denH (.seg H :: X)) = some (.int .i64 (pk l i), denH (.seg H :: X)) := fun l s hs X => call76 (D.up1 hs X) (by omega)
    refine Wp.tree (cE_ok 0) (tree41b k0 k1 k2 k3 k4 k5 k6 k7 k8 k9 k10 k11 k12 d0 d1 d2 d3 d4 d5 d6 d7 d8 d9 d10 d11 d12 u0 u1 u2 u3 u4 u5 u6 L N S0 S1 S2 an ar at_ al al no.length cn ra.length cr rt.length ct i cl 0 0 i p 0 0 0 H Y J J J) ⟨rfl, rfl⟩ ⟨bif_tt _, fun q => by rw [w1] at q; simp [Bool.cond_eq_ite] at q; omega, fun _ => end_exit ⟨J, al, i, cl, ⟨rfl, by show denF _ _ = denF _ _; kernel_rfl, rfl⟩, ?_⟩⟩
    rw [notesF, ← hil]
    exact hl
/-! ### Steps -/
def hasS (l : List R2) (x : R2) : Bool := l.any fun y => y.a == x.a && (y.b == x.b && true)
def stepOf (z : Int) : R2 := ⟨wn z 1 7, if wn z 1 7 = 3 then wn (IntKind.wrap .i64 (Int.tdiv z 7)) 0 3 else 0⟩
def stepAdd (l : List R2) (z : Int) : List R2 := if hasS l (stepOf z) then l else l ++ [stepOf z]
def stepsL (zs : List Int) : List R2 := (zs.take 12).foldl stepAdd []
def dflt : List R2 := [⟨1, 0⟩, ⟨3, 0⟩, ⟨3, 1⟩, ⟨4, 0⟩, ⟨2, 0⟩, ⟨6, 0⟩]
def stepsF (zs : List Int) : List R2 := if (stepsL zs).length = 0 then dflt else stepsL zs
theorem stepAdd_len (l : List R2) (z : Int) : (stepAdd l z).length ≤ l.length + 1 := by
  unfold stepAdd; split <;> simp
theorem fold_len : ∀ (zs : List Int) (l : List R2), (zs.foldl stepAdd l).length ≤ l.length + zs.length
  | [], l => by simp
  | z :: r, l => by
    have h1 := fold_len r (stepAdd l z)
    have h2 := stepAdd_len l z
    simp only [List.foldl_cons, List.length_cons]; omega
theorem stepsL_len (zs : List Int) : (stepsL zs).length ≤ 12 := by
  have := fold_len (zs.take 12) []
  simp only [List.length_nil, List.length_take] at this
  unfold stepsL; omega
theorem loopC {H Y J : Heap} {k0 k1 k2 k3 k4 k5 k6 k7 k8 k9 k10 k11 k12 d0 d1 d2 d3 d4 d5 d6 d7 d8 d9 d10 d11 d12 : Int} {u0 u1 u2 u3 u4 u5 u6 L N S0 S1 S2 : Value} {al : Option Addr} {cl : Nat} {m i : Int} {l : List R2} {x : R2} (ha : RowsW 2 (denH [.seg H, kB k0 k1 k2 k3 k4 k5 k6 k7 k8 k9 k10 k11 k12 (.raw u0) (.raw u1) (.raw u2) (.raw u3) (.raw u4) (.raw u5) (.raw u6), dB 0 0 0 (.raw (.slice none 0 0)) (.raw (.slice none 0 0)) 0 0 0 0 0 0 0 0 0 0 (.raw (.slice none 0 0)) (.raw (.slice none 0 0)) (.raw (.slice none 0 0)), dB d0 d1 d2 (.raw L) (.raw N) d3 d4 d5 d6 d7 d8 d9 d10 d11 d12 (.raw S0) (.raw S1) (.raw S2), .seg Y, .seg J]) (.slice al l.length cl) (l.map e2)) (hl : l.length ≤ 100) :
    Wp (Plain.env tblK (gE 0)) (inL [1, 2, 3, 9, 10, 11, 12, 13, 119]) (.block 8 (.loop body41_8)) (denF [.seg H, kB k0 k1 k2 k3 k4 k5 k6 k7 k8 k9 k10 k11 k12 (.raw u0) (.raw u1) (.raw u2) (.raw u3) (.raw u4) (.raw u5) (.raw u6), dB 0 0 0 (.raw (.slice none 0 0)) (.raw (.slice none 0 0)) 0 0 0 0 0 0 0 0 0 0 (.raw (.slice none 0 0)) (.raw (.slice none 0 0)) (.raw (.slice none 0 0)), dB d0 d1 d2 (.raw L) (.raw N) d3 d4 d5 d6 d7 d8 d9 d10 d11 d12 (.raw S0) (.raw S1) (.raw S2), .seg Y, .seg J, .blk .fix [sI x.a, sI x.b]] (frS 192 [(1, (.ptr 1 0)), (2, (.ptr 2 0)), (3, (.ptr 3 0)), (9, sI m), (10, (.raw (.slice al l.length cl))), (11, sI i), (12, .ptr 6 0), (13, sB false), (119, sI m), (157, (.raw (.slice al l.length cl))), (158, (sI (l.length : Int))), (159, (sI 0))])) (denH [.seg H, kB k0 k1 k2 k3 k4 k5 k6 k7 k8 k9 k10 k11 k12 (.raw u0) (.raw u1) (.raw u2) (.raw u3) (.raw u4) (.raw u5) (.raw u6), dB 0 0 0 (.raw (.slice none 0 0)) (.raw (.slice none 0 0)) 0 0 0 0 0 0 0 0 0 0 (.raw (.slice none 0 0)) (.raw (.slice none 0 0)) (.raw (.slice none 0 0)), dB d0 d1 d2 (.raw L) (.raw N) d3 d4 d5 d6 d7 d8 d9 d10 d11 d12 (.raw S0) (.raw S1) (.raw S2), .seg Y, .seg J, .blk .fix [sI x.a, sI x.b]]) fun e s h => ∃ K : Heap, e = .normal ∧ s = denF [.seg H, kB k0 k1 k2 k3 k4 k5 k6 k7 k8 k9 k10 k11 k12 (.raw u0) (.raw u1) (.raw u2) (.raw u3) (.raw u4) (.raw u5) (.raw u6), dB 0 0 0 (.raw (.slice none 0 0)) (.raw (.slice none 0 0)) 0 0 0 0 0 0 0 0 0 0 (.raw (.slice none 0 0)) (.raw (.slice none 0 0)) (.raw (.slice none 0 0)), dB d0 d1 d2 (.raw L) (.raw N) d3 d4 d5 d6 d7 d8 d9 d10 d11 d12 (.raw S0) (.raw S1) (.raw S2), .seg Y, .seg J, .blk .fix [sI x.a, sI x.b], .seg K] (frS 192 [(1, (.ptr 1 0)), (2, (.ptr 2 0)), (3, (.ptr 3 0)), (9, sI m), (10, (.raw (.slice al l.length cl))), (11, sI i), (12, .ptr 6 0), (13, sB (hasS l x)), (119, sI m)]) ∧ h = denH [.seg H, kB k0 k1 k2 k3 k4 k5 k6 k7 k8 k9 k10 k11 k12 (.raw u0) (.raw u1) (.raw u2) (.raw u3) (.raw u4) (.raw u5) (.raw u6), dB 0 0 0 (.raw (.slice none 0 0)) (.raw (.slice none 0 0)) 0 0 0 0 0 0 0 0 0 0 (.raw (.slice none 0 0)) (.raw (.slice none 0 0)) (.raw (.slice none 0 0)), dB d0 d1 d2 (.raw L) (.raw N) d3 d4 d5 d6 d7 d8 d9 d10 d11 d12 (.raw S0) (.raw S1) (.raw S2), .seg Y, .seg J, .blk .fix [sI x.a, sI x.b], .seg K] := by
  refine Wp.bl (fun k t h => ∃ (j : Nat) (K : Heap), j + k = l.length ∧ t = denF [.seg H, kB k0 k1 k2 k3 k4 k5 k6 k7 k8 k9 k10 k11 k12 (.raw u0) (.raw u1) (.raw u2) (.raw u3) (.raw u4) (.raw u5) (.raw u6), dB 0 0 0 (.raw (.slice none 0 0)) (.raw (.slice none 0 0)) 0 0 0 0 0 0 0 0 0 0 (.raw (.slice none 0 0)) (.raw (.slice none 0 0)) (.raw (.slice none 0 0)), dB d0 d1 d2 (.raw L) (.raw N) d3 d4 d5 d6 d7 d8 d9 d10 d11 d12 (.raw S0) (.raw S1) (.raw S2), .seg Y, .seg J, .blk .fix [sI x.a, sI x.b], .seg K] (frS 192 [(1, (.ptr 1 0)), (2, (.ptr 2 0)), (3, (.ptr 3 0)), (9, sI m), (10, (.raw (.slice al l.length cl))), (11, sI i), (12, .ptr 6 0), (13, sB (hasS (l.take j) x)), (119, sI m), (157, (.raw (.slice al l.length cl))), (158, (sI (l.length : Int))), (159, (sI j))]) ∧ h = denH [.seg H, kB k0 k1 k2 k3 k4 k5 k6 k7 k8 k9 k10 k11 k12 (.raw u0) (.raw u1) (.raw u2) (.raw u3) (.raw u4) (.raw u5) (.raw u6), dB 0 0 0 (.raw (.slice none 0 0)) (.raw (.slice none 0 0)) 0 0 0 0 0 0 0 0 0 0 (.raw (.slice none 0 0)) (.raw (.slice none 0 0)) (.raw (.slice none 0 0)), dB d0 d1 d2 (.raw L) (.raw N) d3 d4 d5 d6 d7 d8 d9 d10 d11 d12 (.raw S0) (.raw S1) (.raw S2), .seg Y, .seg J, .blk .fix [sI x.a, sI x.b], .seg K]) ?_ l.length _ _
    ⟨0, [], by omega, by show denF _ _ = denF _ _; kernel_rfl, by simp [denH, denL, It.den, den0, e2, e3]⟩
  rintro k t h ⟨j, K, hj, rfl, rfl⟩
  by_cases hlt : j < l.length
  · obtain ⟨y, hy⟩ := getE hlt
    have hK : RowsW 2 (denH [.seg H, kB k0 k1 k2 k3 k4 k5 k6 k7 k8 k9 k10 k11 k12 (.raw u0) (.raw u1) (.raw u2) (.raw u3) (.raw u4) (.raw u5) (.raw u6), dB 0 0 0 (.raw (.slice none 0 0)) (.raw (.slice none 0 0)) 0 0 0 0 0 0 0 0 0 0 (.raw (.slice none 0 0)) (.raw (.slice none 0 0)) (.raw (.slice none 0 0)), dB d0 d1 d2 (.raw L) (.raw N) d3 d4 d5 d6 d7 d8 d9 d10 d11 d12 (.raw S0) (.raw S1) (.raw S2), .seg Y, .seg J, .blk .fix [sI x.a, sI x.b], .seg K]) (.slice al l.length cl) (l.map e2) := ha.up (X := [.blk .fix [sI x.a, sI x.b], .seg K]) rfl
    obtain ⟨b1, o1, r1⟩ := hK.rowM hy
    have hs : hasS (l.take (j + 1)) x = (bif (hasS (l.take j) x) then true else (y.a == x.a && (y.b == x.b && true))) := by
      rw [WB.take_one hy]; unfold hasS
      rw [List.any_append]
      cases (List.take j l).any fun y => y.a == x.a && (y.b == x.b && true) <;> simp
    refine Wp.tree (cE_ok 0) (tree41c k0 k1 k2 k3 k4 k5 k6 k7 k8 k9 k10 k11 k12 d0 d1 d2 d3 d4 d5 d6 d7 d8 d9 d10 d11 d12 u0 u1 u2 u3 u4 u5 u6 L N S0 S1 S2 al l.length cl m i j x.a x.b y.a y.b (hasS (l.take j) x) b1 o1 H Y J K) ⟨rfl, rfl⟩ ⟨fun _ => ⟨r1.ptr _ _, r1.all _, bif_tt _, end_next (k - 1) (by omega) ⟨j + 1, K ++ [some ⟨.fix, e2 y⟩], by omega, ?_, by simp [denH, denL, It.den, den0, e2, e3]⟩⟩, fun q => by simp at q; omega⟩
    rw [hs, wrap64 (x := (j : Int) + 1) (by omega) (by omega)]
    show denF _ _ = denF _ _
    kernel_rfl
  · have hil : j = l.length := by omega
    refine Wp.tree (cE_ok 0) (tree41c k0 k1 k2 k3 k4 k5 k6 k7 k8 k9 k10 k11 k12 d0 d1 d2 d3 d4 d5 d6 d7 d8 d9 d10 d11 d12 u0 u1 u2 u3 u4 u5 u6 L N S0 S1 S2 al l.length cl m i j x.a x.b 0 0 (hasS (l.take j) x) 0 0 H Y J K) ⟨rfl, rfl⟩ ⟨fun q => by simp at q; omega, fun _ => end_exit ⟨K, rfl, ?_, rfl⟩⟩
    rw [hil, List.take_length]
    show denF _ _ = denF _ _
    kernel_rfl
end K
end Go.Proofs.Ytgdojnamjkhknaa
