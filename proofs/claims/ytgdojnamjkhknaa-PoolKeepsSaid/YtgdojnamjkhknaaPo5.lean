/-
  keep: a tape of loans as they stand.
-/
import Derived.Test.YtgdojnamjkhknaaTl
namespace Go.Proofs.Ytgdojnamjkhknaa
open Go.Am
set_option linter.all false
set_option maxRecDepth 100000
namespace OF
open PK PK.E1
open TL (TN TNOk)
/-- (cascade/cascadekeep.Tape).Of -/
def il52 : FnIL := ⟨126, [.tmp 6],
 .seq (.reg [
    ⟨(some 3), none, .box (.tmp 0)⟩,
    ⟨(some 6), none, .mov (.const (.slice none 0 0))⟩])
 (.seq (.reg [
    ⟨(some 7), none, .mov (.const (.slice none 0 0))⟩])
 (.seq (.seq (.reg [
     ⟨(some 11), none, .mov (.tmp 1)⟩,
     ⟨(some 12), none, .len (.tmp 11)⟩,
     ⟨(some 13), none, .mov (.const (.int .i64 0))⟩])
  (.block 0
    (.loop
      (.seq (.reg [
         ⟨(some 14), none, .bin .lss (.tmp 13) (.tmp 12)⟩])
      (.seq (.ite (.tmp 14)
         (.skip)
         (.exit 0))
      (.seq (.block 1
         (.seq (.reg [
            ⟨(some 15), none, .mov (.tmp 13)⟩,
            ⟨(some 16), none, .iadr 2 none (.tmp 11) (.tmp 13)⟩,
            ⟨(some 17), none, .load (.tmp 16) (some 2)⟩,
            ⟨(some 9), none, .alloc [(.int .i64 0), (.int .i64 0)]⟩,
            ⟨(some 8), none, .mov (.tmp 15)⟩,
            ⟨none, none, .store (.tmp 9) (.tmp 17) 2⟩])
         (.seq (.seq (.reg [
             ⟨(some 18), none, .fadr 4 (.tmp 3)⟩,
             ⟨(some 19), none, .load (.tmp 18) none⟩,
             ⟨(some 20), none, .mov (.tmp 8)⟩,
             ⟨(some 21), none, .call 76 [(.tmp 19), (.tmp 20)]⟩,
             ⟨(some 22), none, .bin .and (.tmp 21) (.const (.int .i64 15))⟩,
             ⟨(some 23), none, .bin .eql (.tmp 22) (.const (.int .i64 15))⟩])
          (.ite (.tmp 23)
            (.exit 1)
            (.skip)))
         (.seq (.reg [
            ⟨(some 24), none, .fadr 0 (.tmp 9)⟩,
            ⟨(some 25), none, .load (.tmp 24) none⟩,
            ⟨(some 26), none, .build [(.int .i64 0), (.int .i64 0), (.int .i64 0), (.int .i64 0), (.int .i64 0), (.int .i64 0), (.bool false)] [(0, 1, (.tmp 25))]⟩,
            ⟨(some 10), none, .alloc [(.int .i64 0), (.int .i64 0), (.int .i64 0), (.int .i64 0), (.int .i64 0), (.int .i64 0), (.bool false)]⟩,
            ⟨none, none, .store (.tmp 10) (.tmp 26) 7⟩])
         (.seq (.seq (.reg [
             ⟨(some 27), none, .fadr 1 (.tmp 9)⟩,
             ⟨(some 28), none, .load (.tmp 27) none⟩,
             ⟨(some 29), none, .bin .gtr (.tmp 28) (.const (.int .i64 0))⟩])
          (.ite (.tmp 29)
            (.seq (.dreg [
               ⟨(some 30), none, .fadr 0 (.tmp 3)⟩,
               ⟨(some 31), none, .load (.tmp 30) none⟩,
               ⟨(some 32), none, .mov (.tmp 8)⟩,
               ⟨(some 33), none, .call 76 [(.tmp 31), (.tmp 32)]⟩,
               ⟨(some 34), none, .fadr 1 (.tmp 9)⟩,
               ⟨(some 35), none, .load (.tmp 34) none⟩,
               ⟨(some 36), none, .bin .quo (.tmp 35) (.const (.int .i64 4))⟩,
               ⟨(some 37), none, .call 30 [(.tmp 33), (.const (.int .i64 0)), (.tmp 36)]⟩,
               ⟨(some 38), none, .fadr 1 (.tmp 10)⟩,
               ⟨none, none, .store (.tmp 38) (.tmp 37) 1⟩] [])
            (.seq (.dreg [
               ⟨(some 39), none, .fadr 1 (.tmp 3)⟩,
               ⟨(some 40), none, .load (.tmp 39) none⟩,
               ⟨(some 41), none, .mov (.tmp 8)⟩,
               ⟨(some 42), none, .call 76 [(.tmp 40), (.tmp 41)]⟩,
               ⟨(some 43), none, .fadr 1 (.tmp 9)⟩,
               ⟨(some 44), none, .load (.tmp 43) none⟩,
               ⟨(some 45), none, .fadr 1 (.tmp 10)⟩,
               ⟨(some 46), none, .load (.tmp 45) none⟩,
               ⟨(some 47), none, .bin .sub (.tmp 44) (.tmp 46)⟩,
               ⟨(some 48), none, .bin .mul (.const (.int .i64 2)) (.tmp 47)⟩,
               ⟨(some 49), none, .call 30 [(.tmp 42), (.const (.int .i64 0)), (.tmp 48)]⟩,
               ⟨(some 50), none, .fadr 2 (.tmp 10)⟩,
               ⟨none, none, .store (.tmp 50) (.tmp 49) 1⟩] [])
            (.seq (.seq (.reg [
                ⟨(some 51), none, .fadr 2 (.tmp 10)⟩,
                ⟨(some 52), none, .load (.tmp 51) none⟩,
                ⟨(some 53), none, .fadr 1 (.tmp 9)⟩,
                ⟨(some 54), none, .load (.tmp 53) none⟩,
                ⟨(some 55), none, .fadr 1 (.tmp 10)⟩,
                ⟨(some 56), none, .load (.tmp 55) none⟩,
                ⟨(some 57), none, .bin .sub (.tmp 54) (.tmp 56)⟩,
                ⟨(some 58), none, .bin .gtr (.tmp 52) (.tmp 57)⟩])
             (.ite (.tmp 58)
               (.reg [
                 ⟨(some 59), none, .fadr 2 (.tmp 10)⟩,
                 ⟨none, none, .store (.tmp 59) (.const (.int .i64 0)) 1⟩])
               (.skip)))
            (.seq (.dreg [
               ⟨(some 60), none, .fadr 2 (.tmp 3)⟩,
               ⟨(some 61), none, .load (.tmp 60) none⟩,
               ⟨(some 62), none, .mov (.tmp 8)⟩,
               ⟨(some 63), none, .call 76 [(.tmp 61), (.tmp 62)]⟩,
               ⟨(some 64), none, .fadr 1 (.tmp 9)⟩,
               ⟨(some 65), none, .load (.tmp 64) none⟩,
               ⟨(some 66), none, .bin .quo (.tmp 65) (.const (.int .i64 50))⟩,
               ⟨(some 67), none, .bin .add (.const (.int .i64 1)) (.tmp 66)⟩,
               ⟨(some 68), none, .call 30 [(.tmp 63), (.const (.int .i64 0)), (.tmp 67)]⟩,
               ⟨(some 69), none, .fadr 3 (.tmp 10)⟩,
               ⟨none, none, .store (.tmp 69) (.tmp 68) 1⟩] [])
            (.seq (.reg [
               ⟨(some 70), none, .fadr 4 (.tmp 3)⟩,
               ⟨(some 71), none, .load (.tmp 70) none⟩,
               ⟨(some 72), none, .mov (.tmp 8)⟩,
               ⟨(some 73), none, .call 76 [(.tmp 71), (.tmp 72)]⟩,
               ⟨(some 74), none, .call 30 [(.tmp 73), (.const (.int .i64 0)), (.const (.int .i64 24))]⟩,
               ⟨(some 75), none, .bin .sub (.tmp 74) (.const (.int .i64 12))⟩,
               ⟨(some 76), none, .mx (.const (.int .i64 0)) (.tmp 75)⟩,
               ⟨(some 77), none, .fadr 5 (.tmp 10)⟩,
               ⟨none, none, .store (.tmp 77) (.tmp 76) 1⟩])
            (.seq (.reg [
               ⟨(some 78), none, .fadr 5 (.tmp 3)⟩,
               ⟨(some 79), none, .load (.tmp 78) none⟩,
               ⟨(some 80), none, .mov (.tmp 8)⟩,
               ⟨(some 81), none, .call 76 [(.tmp 79), (.tmp 80)]⟩,
               ⟨(some 82), none, .bin .and (.tmp 81) (.const (.int .i64 7))⟩,
               ⟨(some 83), none, .bin .eql (.tmp 82) (.const (.int .i64 7))⟩])
            (.ite (.tmp 83)
              (.seq (.reg [
                 ⟨(some 84), none, .fadr 6 (.tmp 10)⟩,
                 ⟨none, none, .store (.tmp 84) (.const (.bool true)) 1⟩])
              (.dreg [
                ⟨(some 85), none, .fadr 3 (.tmp 3)⟩,
                ⟨(some 86), none, .load (.tmp 85) none⟩,
                ⟨(some 87), none, .mov (.tmp 8)⟩,
                ⟨(some 88), none, .call 76 [(.tmp 86), (.tmp 87)]⟩,
                ⟨(some 89), none, .fadr 1 (.tmp 9)⟩,
                ⟨(some 90), none, .load (.tmp 89) none⟩,
                ⟨(some 91), none, .fadr 1 (.tmp 10)⟩,
                ⟨(some 92), none, .load (.tmp 91) none⟩,
                ⟨(some 93), none, .bin .sub (.tmp 90) (.tmp 92)⟩,
                ⟨(some 94), none, .fadr 2 (.tmp 10)⟩,
                ⟨(some 95), none, .load (.tmp 94) none⟩,
                ⟨(some 96), none, .bin .sub (.tmp 93) (.tmp 95)⟩,
                ⟨(some 97), none, .call 30 [(.tmp 88), (.const (.int .i64 0)), (.tmp 96)]⟩,
                ⟨(some 98), none, .fadr 4 (.tmp 10)⟩,
                ⟨none, none, .store (.tmp 98) (.tmp 97) 1⟩] []))
              (.skip))))))))
            (.seq (.reg [
               ⟨(some 99), none, .mov (.tmp 8)⟩,
               ⟨(some 100), none, .mov (.tmp 2)⟩,
               ⟨(some 101), none, .len (.tmp 100)⟩,
               ⟨(some 102), none, .bin .lss (.tmp 99) (.tmp 101)⟩,
               ⟨(some 103), none, .mov (.tmp 102)⟩,
               ⟨(some 104), (some (103, true)), .mov (.tmp 2)⟩,
               ⟨(some 105), (some (103, true)), .mov (.tmp 8)⟩,
               ⟨(some 106), (some (103, true)), .iadr 1 none (.tmp 104) (.tmp 105)⟩,
               ⟨(some 107), (some (103, true)), .load (.tmp 106) none⟩,
               ⟨(some 108), (some (103, true)), .bin .gtr (.tmp 107) (.const (.int .i64 0))⟩,
               ⟨(some 109), none, .pick (.tmp 103) (.tmp 108) (.const (.bool false))⟩])
            (.ite (.tmp 109)
              (.dreg [
                ⟨(some 110), none, .fadr 3 (.tmp 3)⟩,
                ⟨(some 111), none, .load (.tmp 110) none⟩,
                ⟨(some 112), none, .mov (.tmp 8)⟩,
                ⟨(some 113), none, .call 76 [(.tmp 111), (.tmp 112)]⟩,
                ⟨(some 114), none, .mov (.tmp 2)⟩,
                ⟨(some 115), none, .mov (.tmp 8)⟩,
                ⟨(some 116), none, .iadr 1 none (.tmp 114) (.tmp 115)⟩,
                ⟨(some 117), none, .load (.tmp 116) none⟩,
                ⟨(some 118), none, .call 30 [(.tmp 113), (.const (.int .i64 0)), (.tmp 117)]⟩,
                ⟨(some 119), none, .fadr 4 (.tmp 10)⟩,
                ⟨none, none, .store (.tmp 119) (.tmp 118) 1⟩] [])
              (.skip)))))
         (.reg [
           ⟨(some 120), none, .mov (.tmp 7)⟩,
           ⟨(some 121), none, .load (.tmp 10) (some 7)⟩,
           ⟨(some 122), none, .mkrow [(.int .i64 0), (.int .i64 0), (.int .i64 0), (.int .i64 0), (.int .i64 0), (.int .i64 0), (.bool false)] 1 [(0, 7, (.tmp 121))]⟩,
           ⟨(some 123), none, .append 7 56 (.tmp 120) (.tmp 122)⟩,
           ⟨(some 7), none, .mov (.tmp 123)⟩]))))))
      (.reg [
        ⟨(some 124), none, .bin .add (.tmp 13) (.const (.int .i64 1))⟩,
        ⟨(some 13), none, .mov (.tmp 124)⟩])))))))
 (.seq (.reg [
    ⟨(some 125), none, .mov (.tmp 7)⟩,
    ⟨(some 6), none, .mov (.tmp 125)⟩])
 (.ret))))⟩
theorem st52 : stF Try.prog qp 52 = some il52 := by kernel_rfl
def body52_0 : IL := .seq (.reg [
    ⟨(some 14), none, .bin .lss (.tmp 13) (.tmp 12)⟩])
 (.seq (.ite (.tmp 14)
    (.skip)
    (.exit 0))
 (.seq (.block 1
    (.seq (.reg [
       ⟨(some 15), none, .mov (.tmp 13)⟩,
       ⟨(some 16), none, .iadr 2 none (.tmp 11) (.tmp 13)⟩,
       ⟨(some 17), none, .load (.tmp 16) (some 2)⟩,
       ⟨(some 9), none, .alloc [(.int .i64 0), (.int .i64 0)]⟩,
       ⟨(some 8), none, .mov (.tmp 15)⟩,
       ⟨none, none, .store (.tmp 9) (.tmp 17) 2⟩])
    (.seq (.seq (.reg [
        ⟨(some 18), none, .fadr 4 (.tmp 3)⟩,
        ⟨(some 19), none, .load (.tmp 18) none⟩,
        ⟨(some 20), none, .mov (.tmp 8)⟩,
        ⟨(some 21), none, .call 76 [(.tmp 19), (.tmp 20)]⟩,
        ⟨(some 22), none, .bin .and (.tmp 21) (.const (.int .i64 15))⟩,
        ⟨(some 23), none, .bin .eql (.tmp 22) (.const (.int .i64 15))⟩])
     (.ite (.tmp 23)
       (.exit 1)
       (.skip)))
    (.seq (.reg [
       ⟨(some 24), none, .fadr 0 (.tmp 9)⟩,
       ⟨(some 25), none, .load (.tmp 24) none⟩,
       ⟨(some 26), none, .build [(.int .i64 0), (.int .i64 0), (.int .i64 0), (.int .i64 0), (.int .i64 0), (.int .i64 0), (.bool false)] [(0, 1, (.tmp 25))]⟩,
       ⟨(some 10), none, .alloc [(.int .i64 0), (.int .i64 0), (.int .i64 0), (.int .i64 0), (.int .i64 0), (.int .i64 0), (.bool false)]⟩,
       ⟨none, none, .store (.tmp 10) (.tmp 26) 7⟩])
    (.seq (.seq (.reg [
        ⟨(some 27), none, .fadr 1 (.tmp 9)⟩,
        ⟨(some 28), none, .load (.tmp 27) none⟩,
        ⟨(some 29), none, .bin .gtr (.tmp 28) (.const (.int .i64 0))⟩])
     (.ite (.tmp 29)
       (.seq (.dreg [
          ⟨(some 30), none, .fadr 0 (.tmp 3)⟩,
          ⟨(some 31), none, .load (.tmp 30) none⟩,
          ⟨(some 32), none, .mov (.tmp 8)⟩,
          ⟨(some 33), none, .call 76 [(.tmp 31), (.tmp 32)]⟩,
          ⟨(some 34), none, .fadr 1 (.tmp 9)⟩,
          ⟨(some 35), none, .load (.tmp 34) none⟩,
          ⟨(some 36), none, .bin .quo (.tmp 35) (.const (.int .i64 4))⟩,
          ⟨(some 37), none, .call 30 [(.tmp 33), (.const (.int .i64 0)), (.tmp 36)]⟩,
          ⟨(some 38), none, .fadr 1 (.tmp 10)⟩,
          ⟨none, none, .store (.tmp 38) (.tmp 37) 1⟩] [])
       (.seq (.dreg [
          ⟨(some 39), none, .fadr 1 (.tmp 3)⟩,
          ⟨(some 40), none, .load (.tmp 39) none⟩,
          ⟨(some 41), none, .mov (.tmp 8)⟩,
          ⟨(some 42), none, .call 76 [(.tmp 40), (.tmp 41)]⟩,
          ⟨(some 43), none, .fadr 1 (.tmp 9)⟩,
          ⟨(some 44), none, .load (.tmp 43) none⟩,
          ⟨(some 45), none, .fadr 1 (.tmp 10)⟩,
          ⟨(some 46), none, .load (.tmp 45) none⟩,
          ⟨(some 47), none, .bin .sub (.tmp 44) (.tmp 46)⟩,
          ⟨(some 48), none, .bin .mul (.const (.int .i64 2)) (.tmp 47)⟩,
          ⟨(some 49), none, .call 30 [(.tmp 42), (.const (.int .i64 0)), (.tmp 48)]⟩,
          ⟨(some 50), none, .fadr 2 (.tmp 10)⟩,
          ⟨none, none, .store (.tmp 50) (.tmp 49) 1⟩] [])
       (.seq (.seq (.reg [
           ⟨(some 51), none, .fadr 2 (.tmp 10)⟩,
           ⟨(some 52), none, .load (.tmp 51) none⟩,
           ⟨(some 53), none, .fadr 1 (.tmp 9)⟩,
           ⟨(some 54), none, .load (.tmp 53) none⟩,
           ⟨(some 55), none, .fadr 1 (.tmp 10)⟩,
           ⟨(some 56), none, .load (.tmp 55) none⟩,
           ⟨(some 57), none, .bin .sub (.tmp 54) (.tmp 56)⟩,
           ⟨(some 58), none, .bin .gtr (.tmp 52) (.tmp 57)⟩])
        (.ite (.tmp 58)
          (.reg [
            ⟨(some 59), none, .fadr 2 (.tmp 10)⟩,
            ⟨none, none, .store (.tmp 59) (.const (.int .i64 0)) 1⟩])
          (.skip)))
       (.seq (.dreg [
          ⟨(some 60), none, .fadr 2 (.tmp 3)⟩,
          ⟨(some 61), none, .load (.tmp 60) none⟩,
          ⟨(some 62), none, .mov (.tmp 8)⟩,
          ⟨(some 63), none, .call 76 [(.tmp 61), (.tmp 62)]⟩,
          ⟨(some 64), none, .fadr 1 (.tmp 9)⟩,
          ⟨(some 65), none, .load (.tmp 64) none⟩,
          ⟨(some 66), none, .bin .quo (.tmp 65) (.const (.int .i64 50))⟩,
          ⟨(some 67), none, .bin .add (.const (.int .i64 1)) (.tmp 66)⟩,
          ⟨(some 68), none, .call 30 [(.tmp 63), (.const (.int .i64 0)), (.tmp 67)]⟩,
          ⟨(some 69), none, .fadr 3 (.tmp 10)⟩,
          ⟨none, none, .store (.tmp 69) (.tmp 68) 1⟩] [])
       (.seq (.reg [
          ⟨(some 70), none, .fadr 4 (.tmp 3)⟩,
          ⟨(some 71), none, .load (.tmp 70) none⟩,
          ⟨(some 72), none, .mov (.tmp 8)⟩,
          ⟨(some 73), none, .call 76 [(.tmp 71), (.tmp 72)]⟩,
          ⟨(some 74), none, .call 30 [(.tmp 73), (.const (.int .i64 0)), (.const (.int .i64 24))]⟩,
          ⟨(some 75), none, .bin .sub (.tmp 74) (.const (.int .i64 12))⟩,
          ⟨(some 76), none, .mx (.const (.int .i64 0)) (.tmp 75)⟩,
          ⟨(some 77), none, .fadr 5 (.tmp 10)⟩,
          ⟨none, none, .store (.tmp 77) (.tmp 76) 1⟩])
       (.seq (.reg [
          ⟨(some 78), none, .fadr 5 (.tmp 3)⟩,
          ⟨(some 79), none, .load (.tmp 78) none⟩,
          ⟨(some 80), none, .mov (.tmp 8)⟩,
          ⟨(some 81), none, .call 76 [(.tmp 79), (.tmp 80)]⟩,
          ⟨(some 82), none, .bin .and (.tmp 81) (.const (.int .i64 7))⟩,
          ⟨(some 83), none, .bin .eql (.tmp 82) (.const (.int .i64 7))⟩])
       (.ite (.tmp 83)
         (.seq (.reg [
            ⟨(some 84), none, .fadr 6 (.tmp 10)⟩,
            ⟨none, none, .store (.tmp 84) (.const (.bool true)) 1⟩])
         (.dreg [
           ⟨(some 85), none, .fadr 3 (.tmp 3)⟩,
           ⟨(some 86), none, .load (.tmp 85) none⟩,
           ⟨(some 87), none, .mov (.tmp 8)⟩,
           ⟨(some 88), none, .call 76 [(.tmp 86), (.tmp 87)]⟩,
           ⟨(some 89), none, .fadr 1 (.tmp 9)⟩,
           ⟨(some 90), none, .load (.tmp 89) none⟩,
           ⟨(some 91), none, .fadr 1 (.tmp 10)⟩,
           ⟨(some 92), none, .load (.tmp 91) none⟩,
           ⟨(some 93), none, .bin .sub (.tmp 90) (.tmp 92)⟩,
           ⟨(some 94), none, .fadr 2 (.tmp 10)⟩,
           ⟨(some 95), none, .load (.tmp 94) none⟩,
           ⟨(some 96), none, .bin .sub (.tmp 93) (.tmp 95)⟩,
           ⟨(some 97), none, .call 30 [(.tmp 88), (.const (.int .i64 0)), (.tmp 96)]⟩,
           ⟨(some 98), none, .fadr 4 (.tmp 10)⟩,
           ⟨none, none, .store (.tmp 98) (.tmp 97) 1⟩] []))
         (.skip))))))))
       (.seq (.reg [
          ⟨(some 99), none, .mov (.tmp 8)⟩,
          ⟨(some 100), none, .mov (.tmp 2)⟩,
          ⟨(some 101), none, .len (.tmp 100)⟩,
          ⟨(some 102), none, .bin .lss (.tmp 99) (.tmp 101)⟩,
          ⟨(some 103), none, .mov (.tmp 102)⟩,
          ⟨(some 104), (some (103, true)), .mov (.tmp 2)⟩,
          ⟨(some 105), (some (103, true)), .mov (.tmp 8)⟩,
          ⟨(some 106), (some (103, true)), .iadr 1 none (.tmp 104) (.tmp 105)⟩,
          ⟨(some 107), (some (103, true)), .load (.tmp 106) none⟩,
          ⟨(some 108), (some (103, true)), .bin .gtr (.tmp 107) (.const (.int .i64 0))⟩,
          ⟨(some 109), none, .pick (.tmp 103) (.tmp 108) (.const (.bool false))⟩])
       (.ite (.tmp 109)
         (.dreg [
           ⟨(some 110), none, .fadr 3 (.tmp 3)⟩,
           ⟨(some 111), none, .load (.tmp 110) none⟩,
           ⟨(some 112), none, .mov (.tmp 8)⟩,
           ⟨(some 113), none, .call 76 [(.tmp 111), (.tmp 112)]⟩,
           ⟨(some 114), none, .mov (.tmp 2)⟩,
           ⟨(some 115), none, .mov (.tmp 8)⟩,
           ⟨(some 116), none, .iadr 1 none (.tmp 114) (.tmp 115)⟩,
           ⟨(some 117), none, .load (.tmp 116) none⟩,
           ⟨(some 118), none, .call 30 [(.tmp 113), (.const (.int .i64 0)), (.tmp 117)]⟩,
           ⟨(some 119), none, .fadr 4 (.tmp 10)⟩,
           ⟨none, none, .store (.tmp 119) (.tmp 118) 1⟩] [])
         (.skip)))))
    (.reg [
      ⟨(some 120), none, .mov (.tmp 7)⟩,
      ⟨(some 121), none, .load (.tmp 10) (some 7)⟩,
      ⟨(some 122), none, .mkrow [(.int .i64 0), (.int .i64 0), (.int .i64 0), (.int .i64 0), (.int .i64 0), (.int .i64 0), (.bool false)] 1 [(0, 7, (.tmp 121))]⟩,
      ⟨(some 123), none, .append 7 56 (.tmp 120) (.tmp 122)⟩,
      ⟨(some 7), none, .mov (.tmp 123)⟩]))))))
 (.reg [
   ⟨(some 124), none, .bin .add (.tmp 13) (.const (.int .i64 1))⟩,
   ⟨(some 13), none, .mov (.tmp 124)⟩])))
def hn52t (aa ls al a2 : Option Addr) (na ca nl cl nr cr n2 c2 : Nat) (u0 u1 u2 u3 u4 u5 : Value) (i x0 x1 z p0 p1 p2 p3 p4 p5 h4 b s s2 c h5 h6 d f1 f2 f g e : Int) (b1 o1 b2 o2 : Nat) (H J J2 X : Heap) : Hs := (.sym (.pur 22000016 (.pointer (some ⟨b1, o1, none⟩)) (.bas 7000017 (.agg ⟨[(.int .i64 x0), (.int .i64 x1)]⟩) (.use 26000021 (sI p4) ⟨[], []⟩ (.sym .nil (.sym (.use 26000033 (sI p0) ⟨[], []⟩ (.pur 10000036 (.int .i64 h4) (.use 26000037 (sI b) ⟨[], []⟩ (.use 26000042 (sI p1) ⟨[], []⟩ (.pur 10000047 (.int .i64 s) (.pur 10000048 (.int .i64 s2) (.use 26000049 (sI c) ⟨[], []⟩ (.pur 10000057 (.int .i64 s) (.sym (.use 26000063 (sI p2) ⟨[], []⟩ (.pur 10000066 (.int .i64 h5) (.pur 10000067 (.int .i64 h6) (.use 26000068 (sI d) ⟨[], []⟩ (.use 26000073 (sI p4) ⟨[], []⟩ (.use 26000074 (sI f1) ⟨[], []⟩ (.pur 10000075 (.int .i64 f2) (.pur 33000076 (.int .i64 f) (.use 26000081 (sI p5) ⟨[], []⟩ (.sym (.use 26000088 (sI p3) ⟨[], []⟩ (.pur 10000093 (.int .i64 s) (.pur 10000096 (.int .i64 g) (.use 26000097 (sI e) ⟨[], []⟩ (.use 30000123 (.raw (.slice a2 n2 c2)) ⟨[(2, .seg J2)], [.seg X]⟩ .nil))))) (.use 30000123 (.raw (.slice a2 n2 c2)) ⟨[(2, .seg J2)], [.seg X]⟩ .nil))))))))))) (.use 26000063 (sI p2) ⟨[], []⟩ (.pur 10000066 (.int .i64 h5) (.pur 10000067 (.int .i64 h6) (.use 26000068 (sI d) ⟨[], []⟩ (.use 26000073 (sI p4) ⟨[], []⟩ (.use 26000074 (sI f1) ⟨[], []⟩ (.pur 10000075 (.int .i64 f2) (.pur 33000076 (.int .i64 f) (.use 26000081 (sI p5) ⟨[], []⟩ (.sym (.use 26000088 (sI p3) ⟨[], []⟩ (.pur 10000093 (.int .i64 s) (.pur 10000096 (.int .i64 g) (.use 26000097 (sI e) ⟨[], []⟩ (.use 30000123 (.raw (.slice a2 n2 c2)) ⟨[(2, .seg J2)], [.seg X]⟩ .nil))))) (.use 30000123 (.raw (.slice a2 n2 c2)) ⟨[(2, .seg J2)], [.seg X]⟩ .nil)))))))))))))))))))) (.yes (.con (.con (.pur 22000106 (.pointer (some ⟨b2, o2, none⟩)) (.con (.bas 7000107 (.int .i64 z) (.con (.con (.sym (.use 26000113 (sI p3) ⟨[], []⟩ (.pur 22000116 (.pointer (some ⟨b2, o2, none⟩)) (.bas 7000117 (.int .i64 z) (.use 26000118 (sI e) ⟨[], []⟩ (.use 30000123 (.raw (.slice a2 n2 c2)) ⟨[(2, .seg J2)], [.seg X]⟩ .nil))))) (.use 30000123 (.raw (.slice a2 n2 c2)) ⟨[(2, .seg J2)], [.seg X]⟩ .nil))))))))))))))) .nil)
theorem tree52t (aa ls al a2 : Option Addr) (na ca nl cl nr cr n2 c2 : Nat) (u0 u1 u2 u3 u4 u5 : Value) (i x0 x1 z p0 p1 p2 p3 p4 p5 h4 b s s2 c h5 h6 d f1 f2 f g e : Int) (b1 o1 b2 o2 : Nat) (H J J2 X : Heap) : pieceS tblP (gE 0) (cE 0) 300 (fun i => exL i body52_0 || inL [6, 7] i) body52_0 (hn52t aa ls al a2 na ca nl cl nr cr n2 c2 u0 u1 u2 u3 u4 u5 i x0 x1 z p0 p1 p2 p3 p4 p5 h4 b s s2 c h5 h6 d f1 f2 f g e b1 o1 b2 o2 H J J2 X) (frS 126 [(2, (.raw (.slice ls nl cl))), (3, (.ptr 1 0)), (6, (.raw (.slice none 0 0))), (7, (.raw (.slice al nr cr))), (11, (.raw (.slice aa na ca))), (12, (sI (na : Int))), (13, (sI i))]) [.seg H, .blk .fix [(.raw u0), (.raw u1), (.raw u2), (.raw u3), (.raw u4), (.raw u5)], .seg J] =
(.br (decide (i < (na : Int)))
 (.claim (opA (Plain.env tblP (gE 0)) (.iadr 2 none (.const (.slice aa na ca)) (.const (.int .i64 i))) [] [] = some ((.pointer (some ⟨b1, o1, none⟩)), []))
 (.claim (opA (Plain.env tblP (gE 0)) (.load (.const (.pointer (some ⟨b1, o1, none⟩))) (some 2)) [] H = some ((.agg ⟨[(.int .i64 x0), (.int .i64 x1)]⟩), H))
 (.claim (opA (Plain.env tblP (gE 0)) (.call 76 [(.const u4), (.const (.int .i64 i))]) [] (denH [.seg H, .blk .fix [(.raw u0), (.raw u1), (.raw u2), (.raw u3), (.raw u4), (.raw u5)], .seg J, .blk .fix [(sI x0), (sI x1)]]) = some ((.int .i64 p4), denH [.seg H, .blk .fix [(.raw u0), (.raw u1), (.raw u2), (.raw u3), (.raw u4), (.raw u5)], .seg J, .blk .fix [(sI x0), (sI x1)]]))
 (.br ((andI .i64 p4 15) == 15)
 (.ret .normal (frS 126 [(2, (.raw (.slice ls nl cl))), (3, (.ptr 1 0)), (6, (.raw (.slice none 0 0))), (7, (.raw (.slice al nr cr))), (11, (.raw (.slice aa na ca))), (12, (sI (na : Int))), (13, (sI (IntKind.wrap .i64 (i + 1))))]) [.seg H, .blk .fix [(.raw u0), (.raw u1), (.raw u2), (.raw u3), (.raw u4), (.raw u5)], .seg J, .blk .fix [(sI x0), (sI x1)]])
 (.br (decide (x1 > 0))
 (.req true (.claim (opA (Plain.env tblP (gE 0)) (.call 76 [(.const u0), (.const (.int .i64 i))]) [] (denH [.seg H, .blk .fix [(.raw u0), (.raw u1), (.raw u2), (.raw u3), (.raw u4), (.raw u5)], .seg J, .blk .fix [(sI x0), (sI x1)], .blk .fix [(sI x0), (sI 0), (sI 0), (sI 0), (sI 0), (sI 0), (sB false)]]) = some ((.int .i64 p0), denH [.seg H, .blk .fix [(.raw u0), (.raw u1), (.raw u2), (.raw u3), (.raw u4), (.raw u5)], .seg J, .blk .fix [(sI x0), (sI x1)], .blk .fix [(sI x0), (sI 0), (sI 0), (sI 0), (sI 0), (sI 0), (sB false)]]))
 (.claim (opA (Plain.env tblP (gE 0)) (.bin .quo (.const (.int .i64 x1)) (.const (.int .i64 4))) [] [] = some ((.int .i64 h4), []))
 (.claim (opA (Plain.env tblP (gE 0)) (.call 30 [(.const (.int .i64 p0)), (.const (.int .i64 0)), (.const (.int .i64 h4))]) [] (denH [.seg H, .blk .fix [(.raw u0), (.raw u1), (.raw u2), (.raw u3), (.raw u4), (.raw u5)], .seg J, .blk .fix [(sI x0), (sI x1)], .blk .fix [(sI x0), (sI 0), (sI 0), (sI 0), (sI 0), (sI 0), (sB false)]]) = some ((.int .i64 b), denH [.seg H, .blk .fix [(.raw u0), (.raw u1), (.raw u2), (.raw u3), (.raw u4), (.raw u5)], .seg J, .blk .fix [(sI x0), (sI x1)], .blk .fix [(sI x0), (sI 0), (sI 0), (sI 0), (sI 0), (sI 0), (sB false)]]))
 (.req true (.claim (opA (Plain.env tblP (gE 0)) (.call 76 [(.const u1), (.const (.int .i64 i))]) [] (denH [.seg H, .blk .fix [(.raw u0), (.raw u1), (.raw u2), (.raw u3), (.raw u4), (.raw u5)], .seg J, .blk .fix [(sI x0), (sI x1)], .blk .fix [(sI x0), (sI b), (sI 0), (sI 0), (sI 0), (sI 0), (sB false)]]) = some ((.int .i64 p1), denH [.seg H, .blk .fix [(.raw u0), (.raw u1), (.raw u2), (.raw u3), (.raw u4), (.raw u5)], .seg J, .blk .fix [(sI x0), (sI x1)], .blk .fix [(sI x0), (sI b), (sI 0), (sI 0), (sI 0), (sI 0), (sB false)]]))
 (.claim (opA (Plain.env tblP (gE 0)) (.bin .sub (.const (.int .i64 x1)) (.const (.int .i64 b))) [] [] = some ((.int .i64 s), []))
 (.claim (opA (Plain.env tblP (gE 0)) (.bin .mul (.const (.int .i64 2)) (.const (.int .i64 s))) [] [] = some ((.int .i64 s2), []))
 (.claim (opA (Plain.env tblP (gE 0)) (.call 30 [(.const (.int .i64 p1)), (.const (.int .i64 0)), (.const (.int .i64 s2))]) [] (denH [.seg H, .blk .fix [(.raw u0), (.raw u1), (.raw u2), (.raw u3), (.raw u4), (.raw u5)], .seg J, .blk .fix [(sI x0), (sI x1)], .blk .fix [(sI x0), (sI b), (sI 0), (sI 0), (sI 0), (sI 0), (sB false)]]) = some ((.int .i64 c), denH [.seg H, .blk .fix [(.raw u0), (.raw u1), (.raw u2), (.raw u3), (.raw u4), (.raw u5)], .seg J, .blk .fix [(sI x0), (sI x1)], .blk .fix [(sI x0), (sI b), (sI 0), (sI 0), (sI 0), (sI 0), (sB false)]]))
 (.claim (opA (Plain.env tblP (gE 0)) (.bin .sub (.const (.int .i64 x1)) (.const (.int .i64 b))) [] [] = some ((.int .i64 s), []))
 (.br (decide (c > s))
 (.req true (.claim (opA (Plain.env tblP (gE 0)) (.call 76 [(.const u2), (.const (.int .i64 i))]) [] (denH [.seg H, .blk .fix [(.raw u0), (.raw u1), (.raw u2), (.raw u3), (.raw u4), (.raw u5)], .seg J, .blk .fix [(sI x0), (sI x1)], .blk .fix [(sI x0), (sI b), (sI 0), (sI 0), (sI 0), (sI 0), (sB false)]]) = some ((.int .i64 p2), denH [.seg H, .blk .fix [(.raw u0), (.raw u1), (.raw u2), (.raw u3), (.raw u4), (.raw u5)], .seg J, .blk .fix [(sI x0), (sI x1)], .blk .fix [(sI x0), (sI b), (sI 0), (sI 0), (sI 0), (sI 0), (sB false)]]))
 (.claim (opA (Plain.env tblP (gE 0)) (.bin .quo (.const (.int .i64 x1)) (.const (.int .i64 50))) [] [] = some ((.int .i64 h5), []))
 (.claim (opA (Plain.env tblP (gE 0)) (.bin .add (.const (.int .i64 1)) (.const (.int .i64 h5))) [] [] = some ((.int .i64 h6), []))
 (.claim (opA (Plain.env tblP (gE 0)) (.call 30 [(.const (.int .i64 p2)), (.const (.int .i64 0)), (.const (.int .i64 h6))]) [] (denH [.seg H, .blk .fix [(.raw u0), (.raw u1), (.raw u2), (.raw u3), (.raw u4), (.raw u5)], .seg J, .blk .fix [(sI x0), (sI x1)], .blk .fix [(sI x0), (sI b), (sI 0), (sI 0), (sI 0), (sI 0), (sB false)]]) = some ((.int .i64 d), denH [.seg H, .blk .fix [(.raw u0), (.raw u1), (.raw u2), (.raw u3), (.raw u4), (.raw u5)], .seg J, .blk .fix [(sI x0), (sI x1)], .blk .fix [(sI x0), (sI b), (sI 0), (sI 0), (sI 0), (sI 0), (sB false)]]))
 (.claim (opA (Plain.env tblP (gE 0)) (.call 76 [(.const u4), (.const (.int .i64 i))]) [] (denH [.seg H, .blk .fix [(.raw u0), (.raw u1), (.raw u2), (.raw u3), (.raw u4), (.raw u5)], .seg J, .blk .fix [(sI x0), (sI x1)], .blk .fix [(sI x0), (sI b), (sI 0), (sI d), (sI 0), (sI 0), (sB false)]]) = some ((.int .i64 p4), denH [.seg H, .blk .fix [(.raw u0), (.raw u1), (.raw u2), (.raw u3), (.raw u4), (.raw u5)], .seg J, .blk .fix [(sI x0), (sI x1)], .blk .fix [(sI x0), (sI b), (sI 0), (sI d), (sI 0), (sI 0), (sB false)]]))
 (.claim (opA (Plain.env tblP (gE 0)) (.call 30 [(.const (.int .i64 p4)), (.const (.int .i64 0)), (.const (.int .i64 24))]) [] (denH [.seg H, .blk .fix [(.raw u0), (.raw u1), (.raw u2), (.raw u3), (.raw u4), (.raw u5)], .seg J, .blk .fix [(sI x0), (sI x1)], .blk .fix [(sI x0), (sI b), (sI 0), (sI d), (sI 0), (sI 0), (sB false)]]) = some ((.int .i64 f1), denH [.seg H, .blk .fix [(.raw u0), (.raw u1), (.raw u2), (.raw u3), (.raw u4), (.raw u5)], .seg J, .blk .fix [(sI x0), (sI x1)], .blk .fix [(sI x0), (sI b), (sI 0), (sI d), (sI 0), (sI 0), (sB false)]]))
 (.claim (opA (Plain.env tblP (gE 0)) (.bin .sub (.const (.int .i64 f1)) (.const (.int .i64 12))) [] [] = some ((.int .i64 f2), []))
 (.claim (opA (Plain.env tblP (gE 0)) (.mx (.const (.int .i64 0)) (.const (.int .i64 f2))) [] [] = some ((.int .i64 f), []))
 (.claim (opA (Plain.env tblP (gE 0)) (.call 76 [(.const u5), (.const (.int .i64 i))]) [] (denH [.seg H, .blk .fix [(.raw u0), (.raw u1), (.raw u2), (.raw u3), (.raw u4), (.raw u5)], .seg J, .blk .fix [(sI x0), (sI x1)], .blk .fix [(sI x0), (sI b), (sI 0), (sI d), (sI 0), (sI f), (sB false)]]) = some ((.int .i64 p5), denH [.seg H, .blk .fix [(.raw u0), (.raw u1), (.raw u2), (.raw u3), (.raw u4), (.raw u5)], .seg J, .blk .fix [(sI x0), (sI x1)], .blk .fix [(sI x0), (sI b), (sI 0), (sI d), (sI 0), (sI f), (sB false)]]))
 (.br ((andI .i64 p5 7) == 7)
 (.req true (.claim (opA (Plain.env tblP (gE 0)) (.call 76 [(.const u3), (.const (.int .i64 i))]) [] (denH [.seg H, .blk .fix [(.raw u0), (.raw u1), (.raw u2), (.raw u3), (.raw u4), (.raw u5)], .seg J, .blk .fix [(sI x0), (sI x1)], .blk .fix [(sI x0), (sI b), (sI 0), (sI d), (sI 0), (sI f), (sB true)]]) = some ((.int .i64 p3), denH [.seg H, .blk .fix [(.raw u0), (.raw u1), (.raw u2), (.raw u3), (.raw u4), (.raw u5)], .seg J, .blk .fix [(sI x0), (sI x1)], .blk .fix [(sI x0), (sI b), (sI 0), (sI d), (sI 0), (sI f), (sB true)]]))
 (.claim (opA (Plain.env tblP (gE 0)) (.bin .sub (.const (.int .i64 x1)) (.const (.int .i64 b))) [] [] = some ((.int .i64 s), []))
 (.claim (opA (Plain.env tblP (gE 0)) (.bin .sub (.const (.int .i64 s)) (.const (.int .i64 0))) [] [] = some ((.int .i64 g), []))
 (.claim (opA (Plain.env tblP (gE 0)) (.call 30 [(.const (.int .i64 p3)), (.const (.int .i64 0)), (.const (.int .i64 g))]) [] (denH [.seg H, .blk .fix [(.raw u0), (.raw u1), (.raw u2), (.raw u3), (.raw u4), (.raw u5)], .seg J, .blk .fix [(sI x0), (sI x1)], .blk .fix [(sI x0), (sI b), (sI 0), (sI d), (sI 0), (sI f), (sB true)]]) = some ((.int .i64 e), denH [.seg H, .blk .fix [(.raw u0), (.raw u1), (.raw u2), (.raw u3), (.raw u4), (.raw u5)], .seg J, .blk .fix [(sI x0), (sI x1)], .blk .fix [(sI x0), (sI b), (sI 0), (sI d), (sI 0), (sI f), (sB true)]]))
 (.claim (List.length J2 = List.length J) (.claim (opA (Plain.env tblP (gE 0)) (.append 7 56 (.const (.slice al nr cr)) (.const (denV (ofs [.seg H, .blk .fix [(.raw u0), (.raw u1), (.raw u2), (.raw u3), (.raw u4), (.raw u5)], .seg J, .blk .fix [(sI x0), (sI x1)], .blk .fix [(sI x0), (sI b), (sI 0), (sI d), (sI e), (sI f), (sB true)], .blk .fix [(sI x0), (sI b), (sI 0), (sI d), (sI e), (sI f), (sB true)]]) (.sl 5 0 1 1)))) [] (denH [.seg H, .blk .fix [(.raw u0), (.raw u1), (.raw u2), (.raw u3), (.raw u4), (.raw u5)], .seg J, .blk .fix [(sI x0), (sI x1)], .blk .fix [(sI x0), (sI b), (sI 0), (sI d), (sI e), (sI f), (sB true)], .blk .fix [(sI x0), (sI b), (sI 0), (sI d), (sI e), (sI f), (sB true)]]) = some ((.slice a2 n2 c2), denH [.seg H, .blk .fix [(.raw u0), (.raw u1), (.raw u2), (.raw u3), (.raw u4), (.raw u5)], .seg J2, .blk .fix [(sI x0), (sI x1)], .blk .fix [(sI x0), (sI b), (sI 0), (sI d), (sI e), (sI f), (sB true)], .blk .fix [(sI x0), (sI b), (sI 0), (sI d), (sI e), (sI f), (sB true)], .seg X]))
 (.ret .normal (frS 126 [(2, (.raw (.slice ls nl cl))), (3, (.ptr 1 0)), (6, (.raw (.slice none 0 0))), (7, (.raw (.slice a2 n2 c2))), (11, (.raw (.slice aa na ca))), (12, (sI (na : Int))), (13, (sI (IntKind.wrap .i64 (i + 1))))]) [.seg H, .blk .fix [(.raw u0), (.raw u1), (.raw u2), (.raw u3), (.raw u4), (.raw u5)], .seg J2, .blk .fix [(sI x0), (sI x1)], .blk .fix [(sI x0), (sI b), (sI 0), (sI d), (sI e), (sI f), (sB true)], .blk .fix [(sI x0), (sI b), (sI 0), (sI d), (sI e), (sI f), (sB true)], .seg X]))))))))
 (.claim (List.length J2 = List.length J) (.claim (opA (Plain.env tblP (gE 0)) (.append 7 56 (.const (.slice al nr cr)) (.const (denV (ofs [.seg H, .blk .fix [(.raw u0), (.raw u1), (.raw u2), (.raw u3), (.raw u4), (.raw u5)], .seg J, .blk .fix [(sI x0), (sI x1)], .blk .fix [(sI x0), (sI b), (sI 0), (sI d), (sI 0), (sI f), (sB false)], .blk .fix [(sI x0), (sI b), (sI 0), (sI d), (sI 0), (sI f), (sB false)]]) (.sl 5 0 1 1)))) [] (denH [.seg H, .blk .fix [(.raw u0), (.raw u1), (.raw u2), (.raw u3), (.raw u4), (.raw u5)], .seg J, .blk .fix [(sI x0), (sI x1)], .blk .fix [(sI x0), (sI b), (sI 0), (sI d), (sI 0), (sI f), (sB false)], .blk .fix [(sI x0), (sI b), (sI 0), (sI d), (sI 0), (sI f), (sB false)]]) = some ((.slice a2 n2 c2), denH [.seg H, .blk .fix [(.raw u0), (.raw u1), (.raw u2), (.raw u3), (.raw u4), (.raw u5)], .seg J2, .blk .fix [(sI x0), (sI x1)], .blk .fix [(sI x0), (sI b), (sI 0), (sI d), (sI 0), (sI f), (sB false)], .blk .fix [(sI x0), (sI b), (sI 0), (sI d), (sI 0), (sI f), (sB false)], .seg X]))
 (.ret .normal (frS 126 [(2, (.raw (.slice ls nl cl))), (3, (.ptr 1 0)), (6, (.raw (.slice none 0 0))), (7, (.raw (.slice a2 n2 c2))), (11, (.raw (.slice aa na ca))), (12, (sI (na : Int))), (13, (sI (IntKind.wrap .i64 (i + 1))))]) [.seg H, .blk .fix [(.raw u0), (.raw u1), (.raw u2), (.raw u3), (.raw u4), (.raw u5)], .seg J2, .blk .fix [(sI x0), (sI x1)], .blk .fix [(sI x0), (sI b), (sI 0), (sI d), (sI 0), (sI f), (sB false)], .blk .fix [(sI x0), (sI b), (sI 0), (sI d), (sI 0), (sI f), (sB false)], .seg X]))))))))))))))
 (.req true (.claim (opA (Plain.env tblP (gE 0)) (.call 76 [(.const u2), (.const (.int .i64 i))]) [] (denH [.seg H, .blk .fix [(.raw u0), (.raw u1), (.raw u2), (.raw u3), (.raw u4), (.raw u5)], .seg J, .blk .fix [(sI x0), (sI x1)], .blk .fix [(sI x0), (sI b), (sI c), (sI 0), (sI 0), (sI 0), (sB false)]]) = some ((.int .i64 p2), denH [.seg H, .blk .fix [(.raw u0), (.raw u1), (.raw u2), (.raw u3), (.raw u4), (.raw u5)], .seg J, .blk .fix [(sI x0), (sI x1)], .blk .fix [(sI x0), (sI b), (sI c), (sI 0), (sI 0), (sI 0), (sB false)]]))
 (.claim (opA (Plain.env tblP (gE 0)) (.bin .quo (.const (.int .i64 x1)) (.const (.int .i64 50))) [] [] = some ((.int .i64 h5), []))
 (.claim (opA (Plain.env tblP (gE 0)) (.bin .add (.const (.int .i64 1)) (.const (.int .i64 h5))) [] [] = some ((.int .i64 h6), []))
 (.claim (opA (Plain.env tblP (gE 0)) (.call 30 [(.const (.int .i64 p2)), (.const (.int .i64 0)), (.const (.int .i64 h6))]) [] (denH [.seg H, .blk .fix [(.raw u0), (.raw u1), (.raw u2), (.raw u3), (.raw u4), (.raw u5)], .seg J, .blk .fix [(sI x0), (sI x1)], .blk .fix [(sI x0), (sI b), (sI c), (sI 0), (sI 0), (sI 0), (sB false)]]) = some ((.int .i64 d), denH [.seg H, .blk .fix [(.raw u0), (.raw u1), (.raw u2), (.raw u3), (.raw u4), (.raw u5)], .seg J, .blk .fix [(sI x0), (sI x1)], .blk .fix [(sI x0), (sI b), (sI c), (sI 0), (sI 0), (sI 0), (sB false)]]))
 (.claim (opA (Plain.env tblP (gE 0)) (.call 76 [(.const u4), (.const (.int .i64 i))]) [] (denH [.seg H, .blk .fix [(.raw u0), (.raw u1), (.raw u2), (.raw u3), (.raw u4), (.raw u5)], .seg J, .blk .fix [(sI x0), (sI x1)], .blk .fix [(sI x0), (sI b), (sI c), (sI d), (sI 0), (sI 0), (sB false)]]) = some ((.int .i64 p4), denH [.seg H, .blk .fix [(.raw u0), (.raw u1), (.raw u2), (.raw u3), (.raw u4), (.raw u5)], .seg J, .blk .fix [(sI x0), (sI x1)], .blk .fix [(sI x0), (sI b), (sI c), (sI d), (sI 0), (sI 0), (sB false)]]))
 (.claim (opA (Plain.env tblP (gE 0)) (.call 30 [(.const (.int .i64 p4)), (.const (.int .i64 0)), (.const (.int .i64 24))]) [] (denH [.seg H, .blk .fix [(.raw u0), (.raw u1), (.raw u2), (.raw u3), (.raw u4), (.raw u5)], .seg J, .blk .fix [(sI x0), (sI x1)], .blk .fix [(sI x0), (sI b), (sI c), (sI d), (sI 0), (sI 0), (sB false)]]) = some ((.int .i64 f1), denH [.seg H, .blk .fix [(.raw u0), (.raw u1), (.raw u2), (.raw u3), (.raw u4), (.raw u5)], .seg J, .blk .fix [(sI x0), (sI x1)], .blk .fix [(sI x0), (sI b), (sI c), (sI d), (sI 0), (sI 0), (sB false)]]))
 (.claim (opA (Plain.env tblP (gE 0)) (.bin .sub (.const (.int .i64 f1)) (.const (.int .i64 12))) [] [] = some ((.int .i64 f2), []))
 (.claim (opA (Plain.env tblP (gE 0)) (.mx (.const (.int .i64 0)) (.const (.int .i64 f2))) [] [] = some ((.int .i64 f), []))
 (.claim (opA (Plain.env tblP (gE 0)) (.call 76 [(.const u5), (.const (.int .i64 i))]) [] (denH [.seg H, .blk .fix [(.raw u0), (.raw u1), (.raw u2), (.raw u3), (.raw u4), (.raw u5)], .seg J, .blk .fix [(sI x0), (sI x1)], .blk .fix [(sI x0), (sI b), (sI c), (sI d), (sI 0), (sI f), (sB false)]]) = some ((.int .i64 p5), denH [.seg H, .blk .fix [(.raw u0), (.raw u1), (.raw u2), (.raw u3), (.raw u4), (.raw u5)], .seg J, .blk .fix [(sI x0), (sI x1)], .blk .fix [(sI x0), (sI b), (sI c), (sI d), (sI 0), (sI f), (sB false)]]))
 (.br ((andI .i64 p5 7) == 7)
 (.req true (.claim (opA (Plain.env tblP (gE 0)) (.call 76 [(.const u3), (.const (.int .i64 i))]) [] (denH [.seg H, .blk .fix [(.raw u0), (.raw u1), (.raw u2), (.raw u3), (.raw u4), (.raw u5)], .seg J, .blk .fix [(sI x0), (sI x1)], .blk .fix [(sI x0), (sI b), (sI c), (sI d), (sI 0), (sI f), (sB true)]]) = some ((.int .i64 p3), denH [.seg H, .blk .fix [(.raw u0), (.raw u1), (.raw u2), (.raw u3), (.raw u4), (.raw u5)], .seg J, .blk .fix [(sI x0), (sI x1)], .blk .fix [(sI x0), (sI b), (sI c), (sI d), (sI 0), (sI f), (sB true)]]))
 (.claim (opA (Plain.env tblP (gE 0)) (.bin .sub (.const (.int .i64 x1)) (.const (.int .i64 b))) [] [] = some ((.int .i64 s), []))
 (.claim (opA (Plain.env tblP (gE 0)) (.bin .sub (.const (.int .i64 s)) (.const (.int .i64 c))) [] [] = some ((.int .i64 g), []))
 (.claim (opA (Plain.env tblP (gE 0)) (.call 30 [(.const (.int .i64 p3)), (.const (.int .i64 0)), (.const (.int .i64 g))]) [] (denH [.seg H, .blk .fix [(.raw u0), (.raw u1), (.raw u2), (.raw u3), (.raw u4), (.raw u5)], .seg J, .blk .fix [(sI x0), (sI x1)], .blk .fix [(sI x0), (sI b), (sI c), (sI d), (sI 0), (sI f), (sB true)]]) = some ((.int .i64 e), denH [.seg H, .blk .fix [(.raw u0), (.raw u1), (.raw u2), (.raw u3), (.raw u4), (.raw u5)], .seg J, .blk .fix [(sI x0), (sI x1)], .blk .fix [(sI x0), (sI b), (sI c), (sI d), (sI 0), (sI f), (sB true)]]))
 (.claim (List.length J2 = List.length J) (.claim (opA (Plain.env tblP (gE 0)) (.append 7 56 (.const (.slice al nr cr)) (.const (denV (ofs [.seg H, .blk .fix [(.raw u0), (.raw u1), (.raw u2), (.raw u3), (.raw u4), (.raw u5)], .seg J, .blk .fix [(sI x0), (sI x1)], .blk .fix [(sI x0), (sI b), (sI c), (sI d), (sI e), (sI f), (sB true)], .blk .fix [(sI x0), (sI b), (sI c), (sI d), (sI e), (sI f), (sB true)]]) (.sl 5 0 1 1)))) [] (denH [.seg H, .blk .fix [(.raw u0), (.raw u1), (.raw u2), (.raw u3), (.raw u4), (.raw u5)], .seg J, .blk .fix [(sI x0), (sI x1)], .blk .fix [(sI x0), (sI b), (sI c), (sI d), (sI e), (sI f), (sB true)], .blk .fix [(sI x0), (sI b), (sI c), (sI d), (sI e), (sI f), (sB true)]]) = some ((.slice a2 n2 c2), denH [.seg H, .blk .fix [(.raw u0), (.raw u1), (.raw u2), (.raw u3), (.raw u4), (.raw u5)], .seg J2, .blk .fix [(sI x0), (sI x1)], .blk .fix [(sI x0), (sI b), (sI c), (sI d), (sI e), (sI f), (sB true)], .blk .fix [(sI x0), (sI b), (sI c), (sI d), (sI e), (sI f), (sB true)], .seg X]))
 (.ret .normal (frS 126 [(2, (.raw (.slice ls nl cl))), (3, (.ptr 1 0)), (6, (.raw (.slice none 0 0))), (7, (.raw (.slice a2 n2 c2))), (11, (.raw (.slice aa na ca))), (12, (sI (na : Int))), (13, (sI (IntKind.wrap .i64 (i + 1))))]) [.seg H, .blk .fix [(.raw u0), (.raw u1), (.raw u2), (.raw u3), (.raw u4), (.raw u5)], .seg J2, .blk .fix [(sI x0), (sI x1)], .blk .fix [(sI x0), (sI b), (sI c), (sI d), (sI e), (sI f), (sB true)], .blk .fix [(sI x0), (sI b), (sI c), (sI d), (sI e), (sI f), (sB true)], .seg X]))))))))
 (.claim (List.length J2 = List.length J) (.claim (opA (Plain.env tblP (gE 0)) (.append 7 56 (.const (.slice al nr cr)) (.const (denV (ofs [.seg H, .blk .fix [(.raw u0), (.raw u1), (.raw u2), (.raw u3), (.raw u4), (.raw u5)], .seg J, .blk .fix [(sI x0), (sI x1)], .blk .fix [(sI x0), (sI b), (sI c), (sI d), (sI 0), (sI f), (sB false)], .blk .fix [(sI x0), (sI b), (sI c), (sI d), (sI 0), (sI f), (sB false)]]) (.sl 5 0 1 1)))) [] (denH [.seg H, .blk .fix [(.raw u0), (.raw u1), (.raw u2), (.raw u3), (.raw u4), (.raw u5)], .seg J, .blk .fix [(sI x0), (sI x1)], .blk .fix [(sI x0), (sI b), (sI c), (sI d), (sI 0), (sI f), (sB false)], .blk .fix [(sI x0), (sI b), (sI c), (sI d), (sI 0), (sI f), (sB false)]]) = some ((.slice a2 n2 c2), denH [.seg H, .blk .fix [(.raw u0), (.raw u1), (.raw u2), (.raw u3), (.raw u4), (.raw u5)], .seg J2, .blk .fix [(sI x0), (sI x1)], .blk .fix [(sI x0), (sI b), (sI c), (sI d), (sI 0), (sI f), (sB false)], .blk .fix [(sI x0), (sI b), (sI c), (sI d), (sI 0), (sI f), (sB false)], .seg X]))
 (.ret .normal (frS 126 [(2, (.raw (.slice ls nl cl))), (3, (.ptr 1 0)), (6, (.raw (.slice none 0 0))), (7, (.raw (.slice a2 n2 c2))), (11, (.raw (.slice aa na ca))), (12, (sI (na : Int))), (13, (sI (IntKind.wrap .i64 (i + 1))))]) [.seg H, .blk .fix [(.raw u0), (.raw u1), (.raw u2), (.raw u3), (.raw u4), (.raw u5)], .seg J2, .blk .fix [(sI x0), (sI x1)], .blk .fix [(sI x0), (sI b), (sI c), (sI d), (sI 0), (sI f), (sB false)], .blk .fix [(sI x0), (sI b), (sI c), (sI d), (sI 0), (sI f), (sB false)], .seg X])))))))))))))))))))))))))
 (.req (decide (i < (nl : Int))) (.claim (opA (Plain.env tblP (gE 0)) (.iadr 1 none (.const (.slice ls nl cl)) (.const (.int .i64 i))) [] [] = some ((.pointer (some ⟨b2, o2, none⟩)), []))
 (.claim (opA (Plain.env tblP (gE 0)) (.load (.const (.pointer (some ⟨b2, o2, none⟩))) none) [] H = some ((.int .i64 z), H))
 (.br (decide (z > 0))
 (.req true (.claim (opA (Plain.env tblP (gE 0)) (.call 76 [(.const u3), (.const (.int .i64 i))]) [] (denH [.seg H, .blk .fix [(.raw u0), (.raw u1), (.raw u2), (.raw u3), (.raw u4), (.raw u5)], .seg J, .blk .fix [(sI x0), (sI x1)], .blk .fix [(sI x0), (sI 0), (sI 0), (sI 0), (sI 0), (sI 0), (sB false)]]) = some ((.int .i64 p3), denH [.seg H, .blk .fix [(.raw u0), (.raw u1), (.raw u2), (.raw u3), (.raw u4), (.raw u5)], .seg J, .blk .fix [(sI x0), (sI x1)], .blk .fix [(sI x0), (sI 0), (sI 0), (sI 0), (sI 0), (sI 0), (sB false)]]))
 (.claim (opA (Plain.env tblP (gE 0)) (.iadr 1 none (.const (.slice ls nl cl)) (.const (.int .i64 i))) [] [] = some ((.pointer (some ⟨b2, o2, none⟩)), []))
 (.claim (opA (Plain.env tblP (gE 0)) (.load (.const (.pointer (some ⟨b2, o2, none⟩))) none) [] H = some ((.int .i64 z), H))
 (.claim (opA (Plain.env tblP (gE 0)) (.call 30 [(.const (.int .i64 p3)), (.const (.int .i64 0)), (.const (.int .i64 z))]) [] (denH [.seg H, .blk .fix [(.raw u0), (.raw u1), (.raw u2), (.raw u3), (.raw u4), (.raw u5)], .seg J, .blk .fix [(sI x0), (sI x1)], .blk .fix [(sI x0), (sI 0), (sI 0), (sI 0), (sI 0), (sI 0), (sB false)]]) = some ((.int .i64 e), denH [.seg H, .blk .fix [(.raw u0), (.raw u1), (.raw u2), (.raw u3), (.raw u4), (.raw u5)], .seg J, .blk .fix [(sI x0), (sI x1)], .blk .fix [(sI x0), (sI 0), (sI 0), (sI 0), (sI 0), (sI 0), (sB false)]]))
 (.claim (List.length J2 = List.length J) (.claim (opA (Plain.env tblP (gE 0)) (.append 7 56 (.const (.slice al nr cr)) (.const (denV (ofs [.seg H, .blk .fix [(.raw u0), (.raw u1), (.raw u2), (.raw u3), (.raw u4), (.raw u5)], .seg J, .blk .fix [(sI x0), (sI x1)], .blk .fix [(sI x0), (sI 0), (sI 0), (sI 0), (sI e), (sI 0), (sB false)], .blk .fix [(sI x0), (sI 0), (sI 0), (sI 0), (sI e), (sI 0), (sB false)]]) (.sl 5 0 1 1)))) [] (denH [.seg H, .blk .fix [(.raw u0), (.raw u1), (.raw u2), (.raw u3), (.raw u4), (.raw u5)], .seg J, .blk .fix [(sI x0), (sI x1)], .blk .fix [(sI x0), (sI 0), (sI 0), (sI 0), (sI e), (sI 0), (sB false)], .blk .fix [(sI x0), (sI 0), (sI 0), (sI 0), (sI e), (sI 0), (sB false)]]) = some ((.slice a2 n2 c2), denH [.seg H, .blk .fix [(.raw u0), (.raw u1), (.raw u2), (.raw u3), (.raw u4), (.raw u5)], .seg J2, .blk .fix [(sI x0), (sI x1)], .blk .fix [(sI x0), (sI 0), (sI 0), (sI 0), (sI e), (sI 0), (sB false)], .blk .fix [(sI x0), (sI 0), (sI 0), (sI 0), (sI e), (sI 0), (sB false)], .seg X]))
 (.ret .normal (frS 126 [(2, (.raw (.slice ls nl cl))), (3, (.ptr 1 0)), (6, (.raw (.slice none 0 0))), (7, (.raw (.slice a2 n2 c2))), (11, (.raw (.slice aa na ca))), (12, (sI (na : Int))), (13, (sI (IntKind.wrap .i64 (i + 1))))]) [.seg H, .blk .fix [(.raw u0), (.raw u1), (.raw u2), (.raw u3), (.raw u4), (.raw u5)], .seg J2, .blk .fix [(sI x0), (sI x1)], .blk .fix [(sI x0), (sI 0), (sI 0), (sI 0), (sI e), (sI 0), (sB false)], .blk .fix [(sI x0), (sI 0), (sI 0), (sI 0), (sI e), (sI 0), (sB false)], .seg X]))))))))
 (.claim (List.length J2 = List.length J) (.claim (opA (Plain.env tblP (gE 0)) (.append 7 56 (.const (.slice al nr cr)) (.const (denV (ofs [.seg H, .blk .fix [(.raw u0), (.raw u1), (.raw u2), (.raw u3), (.raw u4), (.raw u5)], .seg J, .blk .fix [(sI x0), (sI x1)], .blk .fix [(sI x0), (sI 0), (sI 0), (sI 0), (sI 0), (sI 0), (sB false)], .blk .fix [(sI x0), (sI 0), (sI 0), (sI 0), (sI 0), (sI 0), (sB false)]]) (.sl 5 0 1 1)))) [] (denH [.seg H, .blk .fix [(.raw u0), (.raw u1), (.raw u2), (.raw u3), (.raw u4), (.raw u5)], .seg J, .blk .fix [(sI x0), (sI x1)], .blk .fix [(sI x0), (sI 0), (sI 0), (sI 0), (sI 0), (sI 0), (sB false)], .blk .fix [(sI x0), (sI 0), (sI 0), (sI 0), (sI 0), (sI 0), (sB false)]]) = some ((.slice a2 n2 c2), denH [.seg H, .blk .fix [(.raw u0), (.raw u1), (.raw u2), (.raw u3), (.raw u4), (.raw u5)], .seg J2, .blk .fix [(sI x0), (sI x1)], .blk .fix [(sI x0), (sI 0), (sI 0), (sI 0), (sI 0), (sI 0), (sB false)], .blk .fix [(sI x0), (sI 0), (sI 0), (sI 0), (sI 0), (sI 0), (sB false)], .seg X]))
 (.ret .normal (frS 126 [(2, (.raw (.slice ls nl cl))), (3, (.ptr 1 0)), (6, (.raw (.slice none 0 0))), (7, (.raw (.slice a2 n2 c2))), (11, (.raw (.slice aa na ca))), (12, (sI (na : Int))), (13, (sI (IntKind.wrap .i64 (i + 1))))]) [.seg H, .blk .fix [(.raw u0), (.raw u1), (.raw u2), (.raw u3), (.raw u4), (.raw u5)], .seg J2, .blk .fix [(sI x0), (sI x1)], .blk .fix [(sI x0), (sI 0), (sI 0), (sI 0), (sI 0), (sI 0), (sB false)], .blk .fix [(sI x0), (sI 0), (sI 0), (sI 0), (sI 0), (sI 0), (sB false)], .seg X]))))))))))))
 (.ret (.exit 0) (frS 126 [(2, (.raw (.slice ls nl cl))), (3, (.ptr 1 0)), (6, (.raw (.slice none 0 0))), (7, (.raw (.slice al nr cr))), (11, (.raw (.slice aa na ca))), (12, (sI (na : Int))), (13, (sI i))]) [.seg H, .blk .fix [(.raw u0), (.raw u1), (.raw u2), (.raw u3), (.raw u4), (.raw u5)], .seg J])) := by kernel_rfl
def hn52w (aa ls al : Option Addr) (na ca nl cl nr cr : Nat) (u0 u1 u2 u3 u4 u5 : Value) (H X : Heap) : Hs := (.lp 0 [6, 7] (frS 126 [(6, (.raw (.slice none 0 0))), (7, (.raw (.slice al nr cr)))]) ⟨[], [.seg X]⟩ .nil)
theorem tree52w (aa ls al : Option Addr) (na ca nl cl nr cr : Nat) (u0 u1 u2 u3 u4 u5 : Value) (H X : Heap) : fnS tblP (gE 0) (cE 0) 300 il52 (hn52w aa ls al na ca nl cl nr cr u0 u1 u2 u3 u4 u5 H X) [(.raw (.agg ⟨[u0, u1, u2, u3, u4, u5]⟩)), (.raw (.slice aa na ca)), (.raw (.slice ls nl cl))] [.seg H] =
(.claim (Wp (Plain.env tblP (gE 0)) (inL [6, 7]) (.block 0 (.loop body52_0)) (denF [.seg H, .blk .fix [(.raw u0), (.raw u1), (.raw u2), (.raw u3), (.raw u4), (.raw u5)]] (frS 126 [(2, (.raw (.slice ls nl cl))), (3, (.ptr 1 0)), (6, (.raw (.slice none 0 0))), (7, (.raw (.slice none 0 0))), (11, (.raw (.slice aa na ca))), (12, (sI (na : Int))), (13, (sI 0))])) (denH [.seg H, .blk .fix [(.raw u0), (.raw u1), (.raw u2), (.raw u3), (.raw u4), (.raw u5)]]) fun e_ s_ h_ => e_ = .normal ∧ s_ = denF [.seg H, .blk .fix [(.raw u0), (.raw u1), (.raw u2), (.raw u3), (.raw u4), (.raw u5)], .seg X] (frS 126 [(6, (.raw (.slice none 0 0))), (7, (.raw (.slice al nr cr)))]) ∧ h_ = denH [.seg H, .blk .fix [(.raw u0), (.raw u1), (.raw u2), (.raw u3), (.raw u4), (.raw u5)], .seg X])
 (.ret .ret [(.raw (.slice al nr cr))] [.seg H, .blk .fix [(.raw u0), (.raw u1), (.raw u2), (.raw u3), (.raw u4), (.raw u5)], .seg X])) := by kernel_rfl
/-- A line of a loan that has a line. -/
def yL (k : TN) (z : Int) (i : Nat) (x : R2) : R7 :=
  if x.b > 0 then
    ⟨x.a, wn (pk k.p i) 0 (Int.tdiv x.b 4),
      if wn (pk k.q i) 0 (2 * (x.b - wn (pk k.p i) 0 (Int.tdiv x.b 4))) > x.b - wn (pk k.p i) 0 (Int.tdiv x.b 4) then 0 else wn (pk k.q i) 0 (2 * (x.b - wn (pk k.p i) 0 (Int.tdiv x.b 4))),
      wn (pk k.i i) 0 (1 + Int.tdiv x.b 50),
      if (andI .i64 (pk k.d i) 7 == 7) = true then wn (pk k.r i) 0 (x.b - wn (pk k.p i) 0 (Int.tdiv x.b 4) - (if wn (pk k.q i) 0 (2 * (x.b - wn (pk k.p i) 0 (Int.tdiv x.b 4))) > x.b - wn (pk k.p i) 0 (Int.tdiv x.b 4) then 0 else wn (pk k.q i) 0 (2 * (x.b - wn (pk k.p i) 0 (Int.tdiv x.b 4))))) else 0,
      max 0 (wn (pk k.l i) 0 24 - 12), andI .i64 (pk k.d i) 7 == 7⟩
  else ⟨x.a, 0, 0, 0, if z > 0 then wn (pk k.r i) 0 z else 0, 0, false⟩
def lineO (k : TN) (ls : List Int) (i : Nat) (x : R2) : Option R7 := if (andI .i64 (pk k.l i) 15 == 15) = true then none else some (yL k ((ls[i]?).getD 0) i x)
def ofG (k : TN) (ls : List Int) : Nat → List R2 → List R7
  | _, [] => []
  | i, x :: r => (lineO k ls i x).toList ++ ofG k ls (i + 1) r
def ofF (k : TN) (ls : List Int) (now : List R2) : List R7 := ofG k ls 0 now
theorem ofG_len (k : TN) (ls : List Int) : ∀ (now : List R2) (i : Nat), (ofG k ls i now).length ≤ now.length
  | [], _ => by simp [ofG]
  | x :: r, i => by
    have := ofG_len k ls r (i + 1)
    simp only [ofG, List.length_append, List.length_cons]
    have h2 : (lineO k ls i x).toList.length ≤ 1 := by cases lineO k ls i x <;> simp
    omega
theorem wi (x lo hi : Int) (h : Heap) (hp : preWithin lo hi = true) : opA (Plain.env tblP (gE 0)) (.call 30 [.const (.int .i64 x), .const (.int .i64 lo), .const (.int .i64 hi)]) [] h = some (.int .i64 (wn x lo hi), h) := by
  simp [opA, ev, Plain.env, Plain.find, sWithin, hp]
theorem sub_ok (Γ : Env) (x y z : Int) (h : z = IntKind.wrap .i64 (x - y)) : opA Γ (.bin .sub (.const (.int .i64 x)) (.const (.int .i64 y))) [] [] = some (.int .i64 z, []) := by subst h; rfl
theorem add_ok (Γ : Env) (x y z : Int) (h : z = IntKind.wrap .i64 (x + y)) : opA Γ (.bin .add (.const (.int .i64 x)) (.const (.int .i64 y))) [] [] = some (.int .i64 z, []) := by subst h; rfl
theorem mul_ok (Γ : Env) (x y z : Int) (h : z = IntKind.wrap .i64 (x * y)) : opA Γ (.bin .mul (.const (.int .i64 x)) (.const (.int .i64 y))) [] [] = some (.int .i64 z, []) := by subst h; rfl
theorem quo_ok (Γ : Env) (x y z : Int) (hy : y ≠ 0) (h : z = IntKind.wrap .i64 (x.tdiv y)) : opA Γ (.bin .quo (.const (.int .i64 x)) (.const (.int .i64 y))) [] [] = some (.int .i64 z, []) := by
  subst h; simp [opA, pureA, ev, binA, intBin, hy]
theorem mx_ok (Γ : Env) (x y z : Int) (h : z = max x y) : opA Γ (.mx (.const (.int .i64 x)) (.const (.int .i64 y))) [] [] = some (.int .i64 z, []) := by
  subst h
  simp only [opA, pureA, ev]
  try (simp [Int.max_def]; try omega)
  try rfl
theorem tdiv_b {x c : Int} (h : 0 ≤ x) (hc : 0 < c) : 0 ≤ x.tdiv c ∧ x.tdiv c ≤ x := by
  rw [Int.tdiv_eq_ediv_of_nonneg h]
  exact ⟨Int.ediv_nonneg h (by omega), Int.ediv_le_self _ h⟩
theorem loop {H : Heap} {k : TN} {u0 u1 u2 u3 u4 u5 : Value} {aa sl : Option Addr} {ca cl : Nat} {now : List R2} {ls : List Int} (h0 : RowsW 1 H u0 (k.p.map ir)) (h1 : RowsW 1 H u1 (k.q.map ir)) (h2 : RowsW 1 H u2 (k.i.map ir)) (h3 : RowsW 1 H u3 (k.r.map ir)) (h4 : RowsW 1 H u4 (k.l.map ir)) (h5 : RowsW 1 H u5 (k.d.map ir))
    (hn : RowsW 2 H (.slice aa now.length ca) (now.map e2)) (hs : RowsW 1 H (.slice sl ls.length cl) (ls.map ir)) (hl : ls.length = now.length) (hb : ∀ x ∈ now, 0 ≤ x.b ∧ x.b ≤ 1099511627776) (hz : ∀ z ∈ ls, z ≤ 1099511627776) (hN : now.length ≤ 1000000) :
    Wp (Plain.env tblP (gE 0)) (inL [6, 7]) (.block 0 (.loop body52_0)) (denF [.seg H, .blk .fix [(.raw u0), (.raw u1), (.raw u2), (.raw u3), (.raw u4), (.raw u5)]] (frS 126 [(2, (.raw (.slice sl ls.length cl))), (3, (.ptr 1 0)), (6, (.raw (.slice none 0 0))), (7, (.raw (.slice none 0 0))), (11, (.raw (.slice aa now.length ca))), (12, (sI (now.length : Int))), (13, (sI 0))])) (denH [.seg H, .blk .fix [(.raw u0), (.raw u1), (.raw u2), (.raw u3), (.raw u4), (.raw u5)]]) fun e t h => ∃ (X : Heap) (al : Option Addr) (nr cr : Nat), (e = .normal ∧ t = denF [.seg H, .blk .fix [(.raw u0), (.raw u1), (.raw u2), (.raw u3), (.raw u4), (.raw u5)], .seg X] (frS 126 [(6, (.raw (.slice none 0 0))), (7, (.raw (.slice al nr cr)))]) ∧ h = denH [.seg H, .blk .fix [(.raw u0), (.raw u1), (.raw u2), (.raw u3), (.raw u4), (.raw u5)], .seg X]) ∧ LsS 7 (denH [.seg H, .blk .fix [(.raw u0), (.raw u1), (.raw u2), (.raw u3), (.raw u4), (.raw u5)]]) X (.slice al nr cr) ((ofF k ls now).map e7) := by
  refine Wp.bl (fun m t h => ∃ (i : Nat) (J : Heap) (al : Option Addr) (nr cr : Nat) (acc : List R7), i + m = now.length ∧ acc.length ≤ i ∧ t = denF [.seg H, .blk .fix [(.raw u0), (.raw u1), (.raw u2), (.raw u3), (.raw u4), (.raw u5)], .seg J] (frS 126 [(2, (.raw (.slice sl ls.length cl))), (3, (.ptr 1 0)), (6, (.raw (.slice none 0 0))), (7, (.raw (.slice al nr cr))), (11, (.raw (.slice aa now.length ca))), (12, (sI (now.length : Int))), (13, (sI i))]) ∧ h = denH [.seg H, .blk .fix [(.raw u0), (.raw u1), (.raw u2), (.raw u3), (.raw u4), (.raw u5)], .seg J] ∧ LsS 7 (denH [.seg H, .blk .fix [(.raw u0), (.raw u1), (.raw u2), (.raw u3), (.raw u4), (.raw u5)]]) J (.slice al nr cr) (acc.map e7) ∧ ofF k ls now = acc ++ ofG k ls i (now.drop i)) ?_ now.length _ _
    ⟨0, [], none, 0, 0, [], by omega, by simp, by show denF _ _ = denF _ _; kernel_rfl, by simp [denH, denL, It.den, den0], .inl ⟨rfl, rfl⟩, rfl⟩
  rintro m t h ⟨i, J, al, nr, cr, acc, hi, hac, rfl, rfl, hls, hr⟩
  by_cases hlt : i < now.length
  · obtain ⟨x, hx⟩ := getE hlt
    obtain ⟨b1, o1, r1⟩ := hn.rowM hx
    obtain ⟨z, hz1⟩ := getE (show i < ls.length by omega)
    obtain ⟨b2, o2, r2⟩ := hs.rowM hz1
    have hd : now.drop i = x :: now.drop (i + 1) := by
      rw [List.drop_eq_getElem_cons hlt]
      rw [List.getElem?_eq_getElem hlt] at hx
      cases hx; rfl
    rw [hd] at hr
    obtain ⟨xb0, xb1⟩ := hb x (List.mem_of_getElem? hx)
    have zb := hz z (List.mem_of_getElem? hz1)
    have c76 : ∀ (l : List Int) (s : Value) (hs : RowsW 1 H s (l.map ir)) (X : SH), gP 76 [s, .int .i64 (i : Int)] (denH (.seg H :: X)) = some (.int .i64 (pk l i), denH (.seg H :: X)) := fun l s hs X => call76 (up1 hs X) (by omega)
    obtain ⟨t4a, t4b⟩ := tdiv_b (c := 4) xb0 (by decide)
    obtain ⟨t5a, t5b⟩ := tdiv_b (c := 50) xb0 (by decide)
    obtain ⟨b, eb⟩ : ∃ b, b = wn (pk k.p i) 0 (Int.tdiv x.b 4) := ⟨_, rfl⟩
    have b_0 : 0 ≤ b := by rw [eb]; exact wn_lo (by omega)
    have b_1 : b ≤ x.b := by rw [eb]; exact Int.le_trans (wn_hi (by omega)) t4b
    obtain ⟨s, es⟩ : ∃ s, s = x.b - b := ⟨_, rfl⟩
    obtain ⟨c, ec⟩ : ∃ c, c = wn (pk k.q i) 0 (2 * s) := ⟨_, rfl⟩
    have c_0 : 0 ≤ c := by rw [ec]; exact wn_lo (by omega)
    have c_1 : c ≤ 2 * s := by rw [ec]; exact wn_hi (by omega)
    obtain ⟨d, ed⟩ : ∃ d, d = wn (pk k.i i) 0 (1 + Int.tdiv x.b 50) := ⟨_, rfl⟩
    obtain ⟨f1, ef1⟩ : ∃ f1, f1 = wn (pk k.l i) 0 24 := ⟨_, rfl⟩
    have f_0 : 0 ≤ f1 := by rw [ef1]; exact wn_lo (by omega)
    have f_1 : f1 ≤ 24 := by rw [ef1]; exact wn_hi (by omega)
    obtain ⟨g, eg⟩ : ∃ g, g = s - (if c > s then 0 else c) := ⟨_, rfl⟩
    have g_0 : 0 ≤ g ∧ g ≤ x.b := by rw [eg]; split <;> omega
    obtain ⟨e, ee⟩ : ∃ e, e = if x.b > 0 then wn (pk k.r i) 0 g else wn (pk k.r i) 0 z := ⟨_, rfl⟩
    have hyP : x.b > 0 → yL k z i x = ⟨x.a, b, if c > s then 0 else c, d, if (andI .i64 (pk k.d i) 7 == 7) = true then wn (pk k.r i) 0 g else 0, max 0 (f1 - 12), andI .i64 (pk k.d i) 7 == 7⟩ := by
      intro hpos
      unfold yL
      rw [if_pos hpos]
      subst eg ef1 ed ec es eb
      rfl
    have hyN : ¬ x.b > 0 → yL k z i x = ⟨x.a, 0, 0, 0, if z > 0 then wn (pk k.r i) 0 z else 0, 0, false⟩ := by
      intro hpos
      unfold yL
      rw [if_neg hpos]
    obtain ⟨y, ey⟩ : ∃ y, y = yL k z i x := ⟨_, rfl⟩
    rw [← ey] at hyP hyN
    have hlen : (acc.map e7).length = acc.length := by simp
    have hnr : nr = acc.length := by
      obtain ⟨_, _, q⟩ := hls.slc
      simp only [Value.slice.injEq] at q
      rw [hlen] at q
      exact q.2.1
    subst hnr
    obtain ⟨a2, c2, J2, X, q1, q2, q3⟩ := appRow (I := [.seg H, .blk .fix [(.raw u0), (.raw u1), (.raw u2), (.raw u3), (.raw u4), (.raw u5)]]) (R := [.blk .fix [(sI x.a), (sI x.b)], .blk .fix [(sI y.a), (sI y.b), (sI y.c), (sI y.d), (sI y.e), (sI y.f), (sB y.g)]]) (R0 := [some ⟨.fix, [.int .i64 x.a, .int .i64 x.b]⟩, some ⟨.fix, e7 y⟩]) (w := 7) (eby := 56) (row := e7 y) (cs := [(sI y.a), (sI y.b), (sI y.c), (sI y.d), (sI y.e), (sI y.f), (sB y.g)]) rfl (fun _ => rfl) hls (fun _ => rfl) rfl (by decide) (by simp; omega) (by simp; omega)
    rw [hlen] at q2 q3
    have leaf : (andI .i64 (pk k.l i) 15 == 15) = false → ∀ (y1 y2 y3 y4 y5 : Int) (y6 : Bool), y = ⟨x.a, y1, y2, y3, y4, y5, y6⟩ →
        (STr.claim (List.length J2 = List.length J) (.claim (opA (Plain.env tblP (gE 0)) (.append 7 56 (.const (.slice al acc.length cr)) (.const (denV (ofs [.seg H, .blk .fix [(.raw u0), (.raw u1), (.raw u2), (.raw u3), (.raw u4), (.raw u5)], .seg J, .blk .fix [(sI x.a), (sI x.b)], .blk .fix [(sI x.a), (sI y1), (sI y2), (sI y3), (sI y4), (sI y5), (sB y6)], .blk .fix [(sI x.a), (sI y1), (sI y2), (sI y3), (sI y4), (sI y5), (sB y6)]]) (.sl 5 0 1 1)))) [] (denH [.seg H, .blk .fix [(.raw u0), (.raw u1), (.raw u2), (.raw u3), (.raw u4), (.raw u5)], .seg J, .blk .fix [(sI x.a), (sI x.b)], .blk .fix [(sI x.a), (sI y1), (sI y2), (sI y3), (sI y4), (sI y5), (sB y6)], .blk .fix [(sI x.a), (sI y1), (sI y2), (sI y3), (sI y4), (sI y5), (sB y6)]]) = some ((.slice a2 (acc.length + 1) c2), denH [.seg H, .blk .fix [(.raw u0), (.raw u1), (.raw u2), (.raw u3), (.raw u4), (.raw u5)], .seg J2, .blk .fix [(sI x.a), (sI x.b)], .blk .fix [(sI x.a), (sI y1), (sI y2), (sI y3), (sI y4), (sI y5), (sB y6)], .blk .fix [(sI x.a), (sI y1), (sI y2), (sI y3), (sI y4), (sI y5), (sB y6)], .seg X]))
        (.ret .normal (frS 126 [(2, (.raw (.slice sl ls.length cl))), (3, (.ptr 1 0)), (6, (.raw (.slice none 0 0))), (7, (.raw (.slice a2 (acc.length + 1) c2))), (11, (.raw (.slice aa now.length ca))), (12, (sI (now.length : Int))), (13, (sI (IntKind.wrap .i64 (i + 1))))]) [.seg H, .blk .fix [(.raw u0), (.raw u1), (.raw u2), (.raw u3), (.raw u4), (.raw u5)], .seg J2, .blk .fix [(sI x.a), (sI x.b)], .blk .fix [(sI x.a), (sI y1), (sI y2), (sI y3), (sI y4), (sI y5), (sB y6)], .blk .fix [(sI x.a), (sI y1), (sI y2), (sI y3), (sI y4), (sI y5), (sB y6)], .seg X]))).holds (onS (loopK 0 (inL [6, 7]) (fun m t h => ∃ (i : Nat) (J : Heap) (al : Option Addr) (nr cr : Nat) (acc : List R7), i + m = now.length ∧ acc.length ≤ i ∧ t = denF [.seg H, .blk .fix [(.raw u0), (.raw u1), (.raw u2), (.raw u3), (.raw u4), (.raw u5)], .seg J] (frS 126 [(2, (.raw (.slice sl ls.length cl))), (3, (.ptr 1 0)), (6, (.raw (.slice none 0 0))), (7, (.raw (.slice al nr cr))), (11, (.raw (.slice aa now.length ca))), (12, (sI (now.length : Int))), (13, (sI i))]) ∧ h = denH [.seg H, .blk .fix [(.raw u0), (.raw u1), (.raw u2), (.raw u3), (.raw u4), (.raw u5)], .seg J] ∧ LsS 7 (denH [.seg H, .blk .fix [(.raw u0), (.raw u1), (.raw u2), (.raw u3), (.raw u4), (.raw u5)]]) J (.slice al nr cr) (acc.map e7) ∧ ofF k ls now = acc ++ ofG k ls i (now.drop i)) m (fun e t h => ∃ (X : Heap) (al : Option Addr) (nr cr : Nat), (e = .normal ∧ t = denF [.seg H, .blk .fix [(.raw u0), (.raw u1), (.raw u2), (.raw u3), (.raw u4), (.raw u5)], .seg X] (frS 126 [(6, (.raw (.slice none 0 0))), (7, (.raw (.slice al nr cr)))]) ∧ h = denH [.seg H, .blk .fix [(.raw u0), (.raw u1), (.raw u2), (.raw u3), (.raw u4), (.raw u5)], .seg X]) ∧ LsS 7 (denH [.seg H, .blk .fix [(.raw u0), (.raw u1), (.raw u2), (.raw u3), (.raw u4), (.raw u5)]]) X (.slice al nr cr) ((ofF k ls now).map e7)))) := by
      intro hno y1 y2 y3 y4 y5 y6 hy
      have hl0 : lineO k ls i x = some y := by
        unfold lineO
        rw [hno, if_neg (by simp), ey, hz1]; rfl
      rw [hy] at q2 q3
      refine ⟨q1, q2 _, end_next (m - 1) (by omega) ⟨i + 1, J2 ++ ([some ⟨.fix, [.int .i64 x.a, .int .i64 x.b]⟩, some ⟨.fix, e7 y⟩] ++ (some ⟨.fix, e7 y⟩ :: X)), a2, acc.length + 1, c2, acc ++ [y], by omega, by simp; omega, ?_, ?_, ?_, ?_⟩⟩
      · rw [wrap64 (x := (i : Int) + 1) (by omega) (by omega)]; show denF _ _ = denF _ _; kernel_rfl
      · rw [hy]; simp [denH, denL, It.den, den0, e7]
      · rw [hy, List.map_append]; exact q3
      · rw [hr]; simp [ofG, hl0]
    refine Wp.tree (cE_ok 0) (tree52t aa sl al a2 now.length ca ls.length cl acc.length cr (acc.length + 1) c2 u0 u1 u2 u3 u4 u5 i x.a x.b z (pk k.p i) (pk k.q i) (pk k.i i) (pk k.r i) (pk k.l i) (pk k.d i) (Int.tdiv x.b 4) b s (2 * s) c (Int.tdiv x.b 50) (1 + Int.tdiv x.b 50) d f1 (f1 - 12) (max 0 (f1 - 12)) g e b1 o1 b2 o2 H J J2 X) ⟨rfl, rfl⟩ ⟨fun hL => ⟨r1.ptr _ _, ⟨r1.all _, ⟨opA_call (args := [_, _]) rfl (c76 _ _ h4 _), ⟨fun hS => end_next (m - 1) (by omega) ⟨i + 1, J ++ [some ⟨.fix, [.int .i64 x.a, .int .i64 x.b]⟩], al, acc.length, cr, acc, by omega, by omega, by rw [wrap64 (x := (i : Int) + 1) (by omega) (by omega)]; show denF _ _ = denF _ _; kernel_rfl, by simp [denH, denL, It.den, den0], by simpa using hls.more _, by rw [hr]; have hno : lineO k ls i x = none := (by unfold lineO; rw [hS, if_pos rfl]); simp [ofG, hno]⟩, fun hS => ⟨fun hP => ⟨rfl, ⟨opA_call (args := [_, _]) rfl (c76 _ _ h0 _), ⟨quo_ok _ _ _ _ (by decide) (by rw [wrap64 (by omega) (by omega)]), ⟨by rw [eb]; exact wi _ _ _ _ (by simp [preWithin]; omega), ⟨rfl, ⟨opA_call (args := [_, _]) rfl (c76 _ _ h1 _), ⟨sub_ok _ _ _ _ (by rw [wrap64 (by omega) (by omega)]; exact es), ⟨mul_ok _ _ _ _ (by rw [wrap64 (by omega) (by omega)]), ⟨by rw [ec]; exact wi _ _ _ _ (by simp [preWithin]; omega), ⟨sub_ok _ _ _ _ (by rw [wrap64 (by omega) (by omega)]; exact es), ⟨fun hC => ⟨rfl, ⟨opA_call (args := [_, _]) rfl (c76 _ _ h2 _), ⟨quo_ok _ _ _ _ (by decide) (by rw [wrap64 (by omega) (by omega)]), ⟨add_ok _ _ _ _ (by rw [wrap64 (by omega) (by omega)]), ⟨by rw [ed]; exact wi _ _ _ _ (by simp [preWithin]; omega), ⟨opA_call (args := [_, _]) rfl (c76 _ _ h4 _), ⟨by rw [ef1]; exact wi _ _ _ _ (by decide), ⟨sub_ok _ _ _ _ (by rw [wrap64 (by omega) (by omega)]), ⟨mx_ok _ _ _ _ rfl, ⟨opA_call (args := [_, _]) rfl (c76 _ _ h5 _), ⟨fun h7 => ⟨rfl, ⟨opA_call (args := [_, _]) rfl (c76 _ _ h3 _), ⟨sub_ok _ _ _ _ (by rw [wrap64 (by omega) (by omega)]; exact es), ⟨sub_ok _ _ _ _ (by rw [wrap64 (by omega) (by omega), eg, if_pos (by simpa using hC)]), ⟨by rw [ee, if_pos (by simpa using hP)]; exact wi _ _ _ _ (by simp [preWithin]; omega), leaf hS _ _ _ _ _ _ (by rw [hyP (by simpa using hP), if_pos (by simpa using hC), h7, if_pos rfl, ee, if_pos (by simpa using hP)])⟩⟩⟩⟩⟩, fun h7 => leaf hS _ _ _ _ _ _ (by rw [hyP (by simpa using hP), if_pos (by simpa using hC), h7, if_neg (by simp)])⟩⟩⟩⟩⟩⟩⟩⟩⟩⟩⟩, fun hC => ⟨rfl, ⟨opA_call (args := [_, _]) rfl (c76 _ _ h2 _), ⟨quo_ok _ _ _ _ (by decide) (by rw [wrap64 (by omega) (by omega)]), ⟨add_ok _ _ _ _ (by rw [wrap64 (by omega) (by omega)]), ⟨by rw [ed]; exact wi _ _ _ _ (by simp [preWithin]; omega), ⟨opA_call (args := [_, _]) rfl (c76 _ _ h4 _), ⟨by rw [ef1]; exact wi _ _ _ _ (by decide), ⟨sub_ok _ _ _ _ (by rw [wrap64 (by omega) (by omega)]), ⟨mx_ok _ _ _ _ rfl, ⟨opA_call (args := [_, _]) rfl (c76 _ _ h5 _), ⟨fun h7 => ⟨rfl, ⟨opA_call (args := [_, _]) rfl (c76 _ _ h3 _), ⟨sub_ok _ _ _ _ (by rw [wrap64 (by omega) (by omega)]; exact es), ⟨sub_ok _ _ _ _ (by rw [wrap64 (by omega) (by omega), eg, if_neg (by simpa using hC)]), ⟨by rw [ee, if_pos (by simpa using hP)]; exact wi _ _ _ _ (by simp [preWithin]; omega), leaf hS _ _ _ _ _ _ (by rw [hyP (by simpa using hP), if_neg (by simpa using hC), h7, if_pos rfl, ee, if_pos (by simpa using hP)])⟩⟩⟩⟩⟩, fun h7 => leaf hS _ _ _ _ _ _ (by rw [hyP (by simpa using hP), if_neg (by simpa using hC), h7, if_neg (by simp)])⟩⟩⟩⟩⟩⟩⟩⟩⟩⟩⟩⟩⟩⟩⟩⟩⟩⟩⟩⟩⟩⟩, fun hP => ⟨by simp; omega, ⟨r2.ptr _ _, ⟨r2.one _, ⟨fun hZ => ⟨rfl, ⟨opA_call (args := [_, _]) rfl (c76 _ _ h3 _), ⟨r2.ptr _ _, ⟨r2.one _, ⟨by rw [ee, if_neg (by simpa using hP)]; exact wi _ _ _ _ (by simp [preWithin]; simp at hP hZ; omega), leaf hS _ _ _ _ _ _ (by rw [hyN (by simpa using hP), if_pos (by simpa using hZ), ee, if_neg (by simpa using hP)])⟩⟩⟩⟩⟩, fun hZ => leaf hS _ _ _ _ _ _ (by rw [hyN (by simpa using hP), if_neg (by simpa using hZ)])⟩⟩⟩⟩⟩⟩⟩⟩⟩, fun hL => (by simp at hL; omega)⟩
  · have hil : i = now.length := by omega
    refine Wp.tree (cE_ok 0) (tree52t aa sl al al now.length ca ls.length cl nr cr 0 0 u0 u1 u2 u3 u4 u5 i 0 0 0 0 0 0 0 0 0 0 0 0 0 0 0 0 0 0 0 0 0 0 0 0 0 0 H J J J) ⟨rfl, rfl⟩ ⟨fun q => by simp at q; omega, fun _ => end_exit ⟨J, al, nr, cr, ⟨rfl, by show denF _ _ = denF _ _; kernel_rfl, rfl⟩, ?_⟩⟩
    rw [hr, hil, List.drop_length]
    simpa [ofG] using hls
theorem sum52 : Summ Try.prog 52 (runE (Plain.env tblP (gE 0)) il52) := Summ.runE mixed (gE_ok 0) (gE_q 0) st52
theorem run52 {I : SH} (hI : I.all (It.bnd I.length) = true) {k : TN} {vs : List Value} {nv lv : Value} {now : List R2} {ls : List Int} (hk : TNOk (denH I) k vs) (hn : RowsW 2 (denH I) nv (now.map e2)) (hs : RowsW 1 (denH I) lv (ls.map ir)) (hl : ls.length = now.length) (hb : ∀ x ∈ now, 0 ≤ x.b ∧ x.b ≤ 1099511627776) (hz : ∀ z ∈ ls, z ≤ 1099511627776) (hN : now.length ≤ 1000000) :
    ∃ a n c X, runE (Plain.env tblP (gE 0)) il52 [.agg ⟨vs⟩, nv, lv] (denH I) = some (.slice a n c, denH (I ++ [.seg X])) ∧ LsS 7 (denH I) X (.slice a n c) ((ofF k ls now).map e7) := by
  obtain ⟨u0, u1, u2, u3, u4, u5, rfl, h0, h1, h2, h3, h4, h5⟩ := hk.ok
  obtain ⟨aa, ca, rfl⟩ := hn.slcM
  obtain ⟨sl, cl, rfl⟩ := hs.slcM
  obtain ⟨e, t1, g1, ⟨X, al, nr, cr, ⟨rfl, rfl, rfl⟩, hls⟩, w⟩ := (loop h0 h1 h2 h3 h4 h5 hn hs hl hb hz hN).exact
  obtain ⟨v, h', r, ⟨rfl, rfl⟩⟩ := fnS_run (Q := fun v h' => v = .slice al nr cr ∧ h' = denH I ++ (some ⟨.fix, [u0, u1, u2, u3, u4, u5]⟩ :: X)) (cE_ok 0) (tree52w aa sl al now.length ca ls.length cl nr cr u0 u1 u2 u3 u4 u5 (denH I) X) ⟨rfl, rfl⟩ ⟨w, rfl, by simp [denH, denL, It.den, den0]⟩
  refine ⟨al, nr, cr, some ⟨.fix, [u0, u1, u2, u3, u4, u5]⟩ :: X, ?_, ?_⟩
  · rw [denH_snoc I hI]
    have e0 : denH [.seg (denH I)] = denH I := by simp [denH, denL, It.den]
    rw [e0] at r
    exact r
  · exact LsS.ahead (w := 7) (A := [_]) (by simpa [denH, denL, It.den, den0] using hls)
end OF
end Go.Proofs.Ytgdojnamjkhknaa
