/-
  The code that a closed law reaches, as data; that it is that code; its run.
-/
import Derived.Test.YtgdojnamjkhknaaIe2
import Derived.Test.YtgdojnamjkhknaaLnB
import Derived.KernelRfl
namespace Go.Proofs.Ytgdojnamjkhknaa.ClDealdocRuns
open Go.Am
set_option linter.all false
set_option maxRecDepth 100000
/-- cascade/cascadelaw13.DealdocRuns -/
def il19 : FnIL := ⟨35, [.tmp 0],
  .seq (.reg [
     ⟨(some 0), none, .mov (.const (.bool false))⟩])
  (.seq (.reg [
     ⟨(some 7), none, .call 36 []⟩,
     ⟨(some 1), none, .alloc [(.int .i64 0), (.int .i64 0), (.int .i64 0), (.slice none 0 0), (.slice none 0 0), (.int .i64 0), (.int .i64 0), (.int .i64 0), (.int .i64 0), (.int .i64 0), (.int .i64 0), (.int .i64 0), (.int .i64 0), (.int .i64 0), (.int .i64 0), (.slice none 0 0), (.slice none 0 0), (.slice none 0 0)]⟩,
     ⟨none, none, .store (.tmp 1) (.tmp 7) 18⟩])
  (.seq (.reg [
     ⟨(some 8), none, .load (.tmp 1) (some 18)⟩,
     ⟨(some 9), none, .call 67 [(.tmp 8)]⟩,
     ⟨(some 2), none, .mov (.tmp 9)⟩])
  (.seq (.seq (.reg [
      ⟨(some 10), none, .mov (.tmp 2)⟩,
      ⟨(some 11), none, .len (.tmp 10)⟩,
      ⟨(some 12), none, .bin .neq (.tmp 11) (.const (.int .i64 280))⟩])
   (.ite (.tmp 12)
     (.seq (.reg [
        ⟨(some 0), none, .mov (.const (.bool false))⟩])
     (.ret))
     (.skip)))
  (.seq (.reg [
     ⟨(some 14), none, .mov (.tmp 2)⟩,
     ⟨(some 15), none, .call 68 [(.tmp 14)]⟩,
     ⟨(some 13), none, .mov (.tmp 15)⟩,
     ⟨(some 16), none, .ext 0 (.tmp 13)⟩,
     ⟨(some 17), none, .ext 1 (.tmp 13)⟩,
     ⟨(some 3), none, .alloc [(.int .i64 0), (.int .i64 0), (.int .i64 0), (.slice none 0 0), (.slice none 0 0), (.int .i64 0), (.int .i64 0), (.int .i64 0), (.int .i64 0), (.int .i64 0), (.int .i64 0), (.int .i64 0), (.int .i64 0), (.int .i64 0), (.int .i64 0), (.slice none 0 0), (.slice none 0 0), (.slice none 0 0)]⟩,
     ⟨none, none, .store (.tmp 3) (.tmp 16) 18⟩,
     ⟨(some 4), none, .mov (.tmp 17)⟩])
  (.seq (.reg [
     ⟨(some 19), none, .mov (.tmp 2)⟩,
     ⟨(some 20), none, .slice 1 (.tmp 19) (some (.const (.int .i64 1))) none none⟩,
     ⟨(some 21), none, .call 68 [(.tmp 20)]⟩,
     ⟨(some 18), none, .mov (.tmp 21)⟩,
     ⟨(some 22), none, .ext 0 (.tmp 18)⟩,
     ⟨(some 23), none, .ext 1 (.tmp 18)⟩,
     ⟨(some 5), none, .alloc [(.int .i64 0), (.int .i64 0), (.int .i64 0), (.slice none 0 0), (.slice none 0 0), (.int .i64 0), (.int .i64 0), (.int .i64 0), (.int .i64 0), (.int .i64 0), (.int .i64 0), (.int .i64 0), (.int .i64 0), (.int .i64 0), (.int .i64 0), (.slice none 0 0), (.slice none 0 0), (.slice none 0 0)]⟩,
     ⟨none, none, .store (.tmp 5) (.tmp 22) 18⟩,
     ⟨(some 6), none, .mov (.tmp 23)⟩])
  (.seq (.reg [
     ⟨(some 24), none, .mov (.tmp 4)⟩,
     ⟨(some 25), none, .bin .eql (.tmp 24) (.const (.int .i64 0))⟩,
     ⟨(some 26), none, .mov (.tmp 25)⟩,
     ⟨(some 27), (some (26, true)), .load (.tmp 3) (some 18)⟩,
     ⟨(some 28), (some (26, true)), .load (.tmp 1) (some 18)⟩,
     ⟨(some 29), (some (26, true)), .call 44 [(.tmp 27), (.tmp 28)]⟩,
     ⟨(some 30), none, .pick (.tmp 26) (.tmp 29) (.const (.bool false))⟩,
     ⟨(some 31), none, .mov (.tmp 30)⟩,
     ⟨(some 32), (some (31, true)), .mov (.tmp 6)⟩,
     ⟨(some 33), (some (31, true)), .bin .eql (.tmp 32) (.const (.int .i64 1))⟩,
     ⟨(some 34), none, .pick (.tmp 31) (.tmp 33) (.const (.bool false))⟩,
     ⟨(some 0), none, .mov (.tmp 34)⟩])
  (.ret)))))))⟩
theorem st19 : stF Try.prog [] 19 = some il19 := by kernel_rfl
/-- cascade/cascadekeep.One -/
def il36 : FnIL := ⟨20, [.cell 0 (some 18)],
  .seq (.reg [
     ⟨(some 0), none, .alloc [(.int .i64 0), (.int .i64 0), (.int .i64 0), (.slice none 0 0), (.slice none 0 0), (.int .i64 0), (.int .i64 0), (.int .i64 0), (.int .i64 0), (.int .i64 0), (.int .i64 0), (.int .i64 0), (.int .i64 0), (.int .i64 0), (.int .i64 0), (.slice none 0 0), (.slice none 0 0), (.slice none 0 0)]⟩])
  (.seq (.reg [
     ⟨(some 2), none, .build [(.int .i64 0), (.int .i64 0)] [(0, 1, (.const (.int .i64 3)))]⟩,
     ⟨(some 3), none, .build [(.int .i64 0), (.int .i64 0)] [(0, 1, (.const (.int .i64 7)))]⟩,
     ⟨(some 4), none, .mkrow [(.int .i64 0), (.int .i64 0), (.int .i64 0), (.int .i64 0)] 2 [(0, 2, (.tmp 2)), (2, 2, (.tmp 3))]⟩,
     ⟨(some 1), none, .mov (.tmp 4)⟩])
  (.seq (.reg [
     ⟨(some 5), none, .build [(.int .i64 0), (.int .i64 0)] [(0, 1, (.const (.int .i64 1))), (1, 1, (.const (.int .i64 100)))]⟩,
     ⟨(some 6), none, .mkrow [(.int .i64 0), (.int .i64 0)] 1 [(0, 2, (.tmp 5))]⟩,
     ⟨(some 7), none, .build [(.int .i64 0), (.int .i64 0), (.int .i64 0)] [(1, 1, (.const (.int .i64 100)))]⟩,
     ⟨(some 8), none, .mkrow [(.int .i64 0), (.int .i64 0), (.int .i64 0)] 1 [(0, 3, (.tmp 7))]⟩,
     ⟨(some 9), none, .mkrow [] 0 []⟩,
     ⟨(some 10), none, .mov (.tmp 1)⟩,
     ⟨(some 11), none, .append 2 16 (.tmp 9) (.tmp 10)⟩,
     ⟨(some 12), none, .mkrow [] 0 []⟩,
     ⟨(some 13), none, .mov (.tmp 1)⟩,
     ⟨(some 14), none, .append 2 16 (.tmp 12) (.tmp 13)⟩,
     ⟨(some 15), none, .mkrow [] 0 []⟩,
     ⟨(some 16), none, .mov (.tmp 1)⟩,
     ⟨(some 17), none, .append 2 16 (.tmp 15) (.tmp 16)⟩,
     ⟨(some 18), none, .build [(.slice none 0 0), (.slice none 0 0), (.slice none 0 0)] [(0, 1, (.tmp 11)), (1, 1, (.tmp 14)), (2, 1, (.tmp 17))]⟩,
     ⟨(some 19), none, .build [(.int .i64 0), (.int .i64 0), (.int .i64 0), (.slice none 0 0), (.slice none 0 0), (.int .i64 0), (.int .i64 0), (.int .i64 0), (.int .i64 0), (.int .i64 0), (.int .i64 0), (.int .i64 0), (.int .i64 0), (.int .i64 0), (.int .i64 0), (.slice none 0 0), (.slice none 0 0), (.slice none 0 0)] [(0, 1, (.const (.int .i64 2024))), (1, 1, (.const (.int .i64 1))), (3, 1, (.tmp 6)), (4, 1, (.tmp 8)), (15, 3, (.tmp 18))]⟩,
     ⟨none, none, .store (.tmp 0) (.tmp 19) 18⟩])
  (.ret)))⟩
theorem st36 : stF Try.prog [] 36 = some il36 := by kernel_rfl
/-- cascade/dealdoc.Encode -/
def il67 : FnIL := ⟨116, [.tmp 2],
  .seq (.reg [
     ⟨(some 1), none, .box (.tmp 0)⟩,
     ⟨(some 2), none, .mov (.const (.slice none 0 0))⟩])
  (.seq (.seq (.reg [
      ⟨(some 13), none, .load (.tmp 1) (some 18)⟩,
      ⟨(some 14), none, .call 37 [(.tmp 13)]⟩,
      ⟨(some 15), none, .un .not (.tmp 14)⟩])
   (.ite (.tmp 15)
     (.seq (.reg [
        ⟨(some 2), none, .mov (.const (.slice none 0 0))⟩])
     (.ret))
     (.skip)))
  (.seq (.reg [
     ⟨(some 16), none, .fadr 10 (.tmp 1)⟩,
     ⟨(some 17), none, .load (.tmp 16) (some 5)⟩,
     ⟨(some 3), none, .alloc [(.int .i64 0), (.int .i64 0), (.int .i64 0), (.int .i64 0), (.int .i64 0)]⟩,
     ⟨none, none, .store (.tmp 3) (.tmp 17) 5⟩])
  (.seq (.reg [
     ⟨(some 18), none, .fadr 0 (.tmp 1)⟩,
     ⟨(some 19), none, .load (.tmp 18) none⟩,
     ⟨(some 20), none, .fadr 1 (.tmp 1)⟩,
     ⟨(some 21), none, .load (.tmp 20) none⟩,
     ⟨(some 22), none, .fadr 2 (.tmp 1)⟩,
     ⟨(some 23), none, .load (.tmp 22) none⟩,
     ⟨(some 24), none, .fadr 5 (.tmp 1)⟩,
     ⟨(some 25), none, .load (.tmp 24) none⟩,
     ⟨(some 26), none, .fadr 6 (.tmp 1)⟩,
     ⟨(some 27), none, .load (.tmp 26) none⟩,
     ⟨(some 28), none, .fadr 7 (.tmp 1)⟩,
     ⟨(some 29), none, .load (.tmp 28) none⟩,
     ⟨(some 30), none, .fadr 8 (.tmp 1)⟩,
     ⟨(some 31), none, .load (.tmp 30) none⟩,
     ⟨(some 32), none, .fadr 9 (.tmp 1)⟩,
     ⟨(some 33), none, .load (.tmp 32) none⟩,
     ⟨(some 34), none, .fadr 0 (.tmp 3)⟩,
     ⟨(some 35), none, .load (.tmp 34) none⟩,
     ⟨(some 36), none, .fadr 1 (.tmp 3)⟩,
     ⟨(some 37), none, .load (.tmp 36) none⟩,
     ⟨(some 38), none, .fadr 2 (.tmp 3)⟩,
     ⟨(some 39), none, .load (.tmp 38) none⟩,
     ⟨(some 40), none, .fadr 3 (.tmp 3)⟩,
     ⟨(some 41), none, .load (.tmp 40) none⟩,
     ⟨(some 42), none, .fadr 4 (.tmp 3)⟩,
     ⟨(some 43), none, .load (.tmp 42) none⟩,
     ⟨(some 44), none, .mkrow [(.int .i64 0), (.int .i64 0), (.int .i64 0), (.int .i64 0), (.int .i64 0), (.int .i64 0), (.int .i64 0), (.int .i64 0), (.int .i64 0), (.int .i64 0), (.int .i64 0), (.int .i64 0), (.int .i64 0)] 13 [(0, 1, (.tmp 19)), (1, 1, (.tmp 21)), (2, 1, (.tmp 23)), (3, 1, (.tmp 25)), (4, 1, (.tmp 27)), (5, 1, (.tmp 29)), (6, 1, (.tmp 31)), (7, 1, (.tmp 33)), (8, 1, (.tmp 35)), (9, 1, (.tmp 37)), (10, 1, (.tmp 39)), (11, 1, (.tmp 41)), (12, 1, (.tmp 43))]⟩,
     ⟨(some 4), none, .mov (.tmp 44)⟩])
  (.seq (.reg [
     ⟨(some 45), none, .mov (.tmp 4)⟩,
     ⟨(some 46), none, .fadr 3 (.tmp 1)⟩,
     ⟨(some 47), none, .load (.tmp 46) none⟩,
     ⟨(some 48), none, .len (.tmp 47)⟩,
     ⟨(some 49), none, .mkrow [(.int .i64 0)] 1 [(0, 1, (.tmp 48))]⟩,
     ⟨(some 50), none, .append 1 8 (.tmp 45) (.tmp 49)⟩,
     ⟨(some 4), none, .mov (.tmp 50)⟩])
  (.seq (.seq (.reg [
      ⟨(some 51), none, .fadr 3 (.tmp 1)⟩,
      ⟨(some 52), none, .load (.tmp 51) none⟩,
      ⟨(some 53), none, .len (.tmp 52)⟩,
      ⟨(some 54), none, .mov (.const (.int .i64 0))⟩])
   (.block 0
     (.loop
       (.seq (.reg [
          ⟨(some 55), none, .bin .lss (.tmp 54) (.tmp 53)⟩])
       (.seq (.ite (.tmp 55)
          (.skip)
          (.exit 0))
       (.seq (.block 1
          (.seq (.reg [
             ⟨(some 56), none, .iadr 2 none (.tmp 52) (.tmp 54)⟩,
             ⟨(some 57), none, .load (.tmp 56) (some 2)⟩,
             ⟨(some 6), none, .alloc [(.int .i64 0), (.int .i64 0)]⟩,
             ⟨none, none, .store (.tmp 6) (.tmp 57) 2⟩])
          (.reg [
            ⟨(some 58), none, .mov (.tmp 4)⟩,
            ⟨(some 59), none, .fadr 0 (.tmp 6)⟩,
            ⟨(some 60), none, .load (.tmp 59) none⟩,
            ⟨(some 61), none, .fadr 1 (.tmp 6)⟩,
            ⟨(some 62), none, .load (.tmp 61) none⟩,
            ⟨(some 63), none, .mkrow [(.int .i64 0), (.int .i64 0)] 2 [(0, 1, (.tmp 60)), (1, 1, (.tmp 62))]⟩,
            ⟨(some 64), none, .append 1 8 (.tmp 58) (.tmp 63)⟩,
            ⟨(some 4), none, .mov (.tmp 64)⟩])))
       (.reg [
         ⟨(some 65), none, .bin .add (.tmp 54) (.const (.int .i64 1))⟩,
         ⟨(some 54), none, .mov (.tmp 65)⟩])))))))
  (.seq (.reg [
     ⟨(some 66), none, .mov (.tmp 4)⟩,
     ⟨(some 67), none, .fadr 4 (.tmp 1)⟩,
     ⟨(some 68), none, .load (.tmp 67) none⟩,
     ⟨(some 69), none, .len (.tmp 68)⟩,
     ⟨(some 70), none, .mkrow [(.int .i64 0)] 1 [(0, 1, (.tmp 69))]⟩,
     ⟨(some 71), none, .append 1 8 (.tmp 66) (.tmp 70)⟩,
     ⟨(some 4), none, .mov (.tmp 71)⟩])
  (.seq (.seq (.reg [
      ⟨(some 72), none, .fadr 4 (.tmp 1)⟩,
      ⟨(some 73), none, .load (.tmp 72) none⟩,
      ⟨(some 74), none, .len (.tmp 73)⟩,
      ⟨(some 75), none, .mov (.const (.int .i64 0))⟩])
   (.block 2
     (.loop
       (.seq (.reg [
          ⟨(some 76), none, .bin .lss (.tmp 75) (.tmp 74)⟩])
       (.seq (.ite (.tmp 76)
          (.skip)
          (.exit 2))
       (.seq (.block 3
          (.seq (.reg [
             ⟨(some 77), none, .iadr 3 none (.tmp 73) (.tmp 75)⟩,
             ⟨(some 78), none, .load (.tmp 77) (some 3)⟩,
             ⟨(some 8), none, .alloc [(.int .i64 0), (.int .i64 0), (.int .i64 0)]⟩,
             ⟨none, none, .store (.tmp 8) (.tmp 78) 3⟩])
          (.reg [
            ⟨(some 79), none, .mov (.tmp 4)⟩,
            ⟨(some 80), none, .fadr 0 (.tmp 8)⟩,
            ⟨(some 81), none, .load (.tmp 80) none⟩,
            ⟨(some 82), none, .fadr 1 (.tmp 8)⟩,
            ⟨(some 83), none, .load (.tmp 82) none⟩,
            ⟨(some 84), none, .fadr 2 (.tmp 8)⟩,
            ⟨(some 85), none, .load (.tmp 84) none⟩,
            ⟨(some 86), none, .mkrow [(.int .i64 0), (.int .i64 0), (.int .i64 0)] 3 [(0, 1, (.tmp 81)), (1, 1, (.tmp 83)), (2, 1, (.tmp 85))]⟩,
            ⟨(some 87), none, .append 1 8 (.tmp 79) (.tmp 86)⟩,
            ⟨(some 4), none, .mov (.tmp 87)⟩])))
       (.reg [
         ⟨(some 88), none, .bin .add (.tmp 75) (.const (.int .i64 1))⟩,
         ⟨(some 75), none, .mov (.tmp 88)⟩])))))))
  (.seq (.seq (.reg [
      ⟨(some 89), none, .fadr 15 (.tmp 1)⟩,
      ⟨(some 90), none, .load (.tmp 89) (some 3)⟩,
      ⟨(some 91), none, .mov (.const (.int .i64 0))⟩])
   (.block 4
     (.loop
       (.seq (.reg [
          ⟨(some 92), none, .bin .lss (.tmp 91) (.const (.int .i64 3))⟩])
       (.seq (.ite (.tmp 92)
          (.skip)
          (.exit 4))
       (.seq (.block 5
          (.seq (.reg [
             ⟨(some 93), none, .idx 1 3 none (.tmp 90) (.tmp 91)⟩,
             ⟨(some 10), none, .mov (.tmp 93)⟩])
          (.seq (.reg [
             ⟨(some 94), none, .mov (.tmp 4)⟩,
             ⟨(some 95), none, .mov (.tmp 10)⟩,
             ⟨(some 96), none, .len (.tmp 95)⟩,
             ⟨(some 97), none, .mkrow [(.int .i64 0)] 1 [(0, 1, (.tmp 96))]⟩,
             ⟨(some 98), none, .append 1 8 (.tmp 94) (.tmp 97)⟩,
             ⟨(some 4), none, .mov (.tmp 98)⟩])
          (.seq (.reg [
             ⟨(some 99), none, .mov (.tmp 10)⟩,
             ⟨(some 100), none, .len (.tmp 99)⟩,
             ⟨(some 101), none, .mov (.const (.int .i64 0))⟩])
          (.block 6
            (.loop
              (.seq (.reg [
                 ⟨(some 102), none, .bin .lss (.tmp 101) (.tmp 100)⟩])
              (.seq (.ite (.tmp 102)
                 (.skip)
                 (.exit 6))
              (.seq (.block 7
                 (.seq (.reg [
                    ⟨(some 103), none, .iadr 2 none (.tmp 99) (.tmp 101)⟩,
                    ⟨(some 104), none, .load (.tmp 103) (some 2)⟩,
                    ⟨(some 12), none, .alloc [(.int .i64 0), (.int .i64 0)]⟩,
                    ⟨none, none, .store (.tmp 12) (.tmp 104) 2⟩])
                 (.reg [
                   ⟨(some 105), none, .mov (.tmp 4)⟩,
                   ⟨(some 106), none, .fadr 0 (.tmp 12)⟩,
                   ⟨(some 107), none, .load (.tmp 106) none⟩,
                   ⟨(some 108), none, .fadr 1 (.tmp 12)⟩,
                   ⟨(some 109), none, .load (.tmp 108) none⟩,
                   ⟨(some 110), none, .mkrow [(.int .i64 0), (.int .i64 0)] 2 [(0, 1, (.tmp 107)), (1, 1, (.tmp 109))]⟩,
                   ⟨(some 111), none, .append 1 8 (.tmp 105) (.tmp 110)⟩,
                   ⟨(some 4), none, .mov (.tmp 111)⟩])))
              (.reg [
                ⟨(some 112), none, .bin .add (.tmp 101) (.const (.int .i64 1))⟩,
                ⟨(some 101), none, .mov (.tmp 112)⟩]))))))))))
       (.reg [
         ⟨(some 113), none, .bin .add (.tmp 91) (.const (.int .i64 1))⟩,
         ⟨(some 91), none, .mov (.tmp 113)⟩])))))))
  (.seq (.reg [
     ⟨(some 114), none, .mov (.tmp 4)⟩,
     ⟨(some 115), none, .call 23 [(.tmp 114)]⟩,
     ⟨(some 2), none, .mov (.tmp 115)⟩])
  (.ret))))))))))⟩
theorem st67 : stF Try.prog [] 67 = some il67 := by kernel_rfl
/-- cascade/deal.Right -/
def il37 : FnIL := ⟨13, [.tmp 2],
  .seq (.reg [
     ⟨(some 1), none, .box (.tmp 0)⟩,
     ⟨(some 2), none, .mov (.const (.bool false))⟩])
  (.seq (.reg [
     ⟨(some 7), none, .load (.tmp 1) (some 18)⟩,
     ⟨(some 8), none, .call 73 [(.tmp 7)]⟩,
     ⟨(some 6), none, .mov (.tmp 8)⟩,
     ⟨(some 9), none, .ext 0 (.tmp 6)⟩,
     ⟨(some 10), none, .ext 1 (.tmp 6)⟩,
     ⟨(some 11), none, .ext 2 (.tmp 6)⟩,
     ⟨(some 3), none, .mov (.tmp 9)⟩,
     ⟨(some 4), none, .mov (.tmp 10)⟩,
     ⟨(some 5), none, .mov (.tmp 11)⟩])
  (.seq (.reg [
     ⟨(some 12), none, .mov (.tmp 5)⟩,
     ⟨(some 2), none, .mov (.tmp 12)⟩])
  (.ret)))⟩
theorem st37 : stF Try.prog [] 37 = some il37 := by kernel_rfl
/-- cascade/deal.sums -/
def il73 : FnIL := ⟨46, [.tmp 2, .tmp 3, .tmp 4],
  .seq (.reg [
     ⟨(some 1), none, .box (.tmp 0)⟩,
     ⟨(some 2), none, .mov (.const (.int .i64 0))⟩,
     ⟨(some 3), none, .mov (.const (.int .i64 0))⟩,
     ⟨(some 4), none, .mov (.const (.bool false))⟩])
  (.seq (.reg [
     ⟨(some 12), none, .fadr 3 (.tmp 1)⟩,
     ⟨(some 13), none, .load (.tmp 12) none⟩,
     ⟨(some 14), none, .call 94 [(.tmp 13)]⟩,
     ⟨(some 11), none, .mov (.tmp 14)⟩,
     ⟨(some 15), none, .ext 0 (.tmp 11)⟩,
     ⟨(some 16), none, .ext 1 (.tmp 11)⟩,
     ⟨(some 5), none, .mov (.tmp 15)⟩,
     ⟨(some 6), none, .mov (.tmp 16)⟩])
  (.seq (.reg [
     ⟨(some 18), none, .fadr 4 (.tmp 1)⟩,
     ⟨(some 19), none, .load (.tmp 18) none⟩,
     ⟨(some 20), none, .mov (.tmp 5)⟩,
     ⟨(some 21), none, .call 95 [(.tmp 19), (.tmp 20)]⟩,
     ⟨(some 17), none, .mov (.tmp 21)⟩,
     ⟨(some 22), none, .ext 0 (.tmp 17)⟩,
     ⟨(some 23), none, .ext 1 (.tmp 17)⟩,
     ⟨(some 7), none, .mov (.tmp 22)⟩,
     ⟨(some 8), none, .mov (.tmp 23)⟩])
  (.seq (.seq (.reg [
      ⟨(some 24), none, .mov (.tmp 6)⟩,
      ⟨(some 25), none, .un .not (.tmp 24)⟩,
      ⟨(some 26), none, .mov (.tmp 25)⟩,
      ⟨(some 27), (some (26, false)), .mov (.tmp 8)⟩,
      ⟨(some 28), (some (26, false)), .un .not (.tmp 27)⟩,
      ⟨(some 29), none, .pick (.tmp 26) (.const (.bool true)) (.tmp 28)⟩,
      ⟨(some 30), none, .mov (.tmp 29)⟩,
      ⟨(some 31), (some (30, false)), .load (.tmp 1) (some 18)⟩,
      ⟨(some 32), (some (30, false)), .call 96 [(.tmp 31)]⟩,
      ⟨(some 33), (some (30, false)), .un .not (.tmp 32)⟩,
      ⟨(some 34), none, .pick (.tmp 30) (.const (.bool true)) (.tmp 33)⟩])
   (.ite (.tmp 34)
     (.seq (.reg [
        ⟨(some 2), none, .mov (.const (.int .i64 0))⟩,
        ⟨(some 3), none, .mov (.const (.int .i64 0))⟩,
        ⟨(some 4), none, .mov (.const (.bool false))⟩])
     (.ret))
     (.skip)))
  (.seq (.seq (.reg [
      ⟨(some 35), none, .fadr 15 (.tmp 1)⟩,
      ⟨(some 36), none, .load (.tmp 35) (some 3)⟩,
      ⟨(some 37), none, .mov (.const (.int .i64 0))⟩])
   (.block 0
     (.loop
       (.seq (.reg [
          ⟨(some 38), none, .bin .lss (.tmp 37) (.const (.int .i64 3))⟩])
       (.seq (.ite (.tmp 38)
          (.skip)
          (.exit 0))
       (.seq (.block 1
          (.seq (.reg [
             ⟨(some 39), none, .idx 1 3 none (.tmp 36) (.tmp 37)⟩,
             ⟨(some 10), none, .mov (.tmp 39)⟩])
          (.seq (.reg [
             ⟨(some 40), none, .mov (.tmp 10)⟩,
             ⟨(some 41), none, .call 40 [(.tmp 40)]⟩,
             ⟨(some 42), none, .un .not (.tmp 41)⟩])
          (.ite (.tmp 42)
            (.seq (.reg [
               ⟨(some 2), none, .mov (.const (.int .i64 0))⟩,
               ⟨(some 3), none, .mov (.const (.int .i64 0))⟩,
               ⟨(some 4), none, .mov (.const (.bool false))⟩])
            (.ret))
            (.skip)))))
       (.reg [
         ⟨(some 43), none, .bin .add (.tmp 37) (.const (.int .i64 1))⟩,
         ⟨(some 37), none, .mov (.tmp 43)⟩])))))))
  (.seq (.reg [
     ⟨(some 44), none, .mov (.tmp 5)⟩,
     ⟨(some 45), none, .mov (.tmp 7)⟩,
     ⟨(some 2), none, .mov (.tmp 44)⟩,
     ⟨(some 3), none, .mov (.tmp 45)⟩,
     ⟨(some 4), none, .mov (.const (.bool true))⟩])
  (.ret))))))⟩
theorem st73 : stF Try.prog [] 73 = some il73 := by kernel_rfl
/-- cascade/deal.loans -/
def il94 : FnIL := ⟨38, [.tmp 2, .tmp 3],
  .seq (.reg [
     ⟨(some 2), none, .mov (.const (.int .i64 0))⟩,
     ⟨(some 3), none, .mov (.const (.bool false))⟩])
  (.seq (.seq (.reg [
      ⟨(some 8), none, .mov (.tmp 0)⟩,
      ⟨(some 9), none, .len (.tmp 8)⟩,
      ⟨(some 10), none, .call 74 [(.tmp 9), (.const (.int .i64 1)), (.const (.int .i64 64))]⟩,
      ⟨(some 11), none, .un .not (.tmp 10)⟩])
   (.ite (.tmp 11)
     (.seq (.reg [
        ⟨(some 2), none, .mov (.const (.int .i64 0))⟩,
        ⟨(some 3), none, .mov (.const (.bool false))⟩])
     (.ret))
     (.skip)))
  (.seq (.reg [
     ⟨(some 4), none, .mov (.const (.int .i64 0))⟩,
     ⟨(some 5), none, .mov (.const (.int .i64 0))⟩])
  (.seq (.seq (.reg [
      ⟨(some 12), none, .mov (.tmp 0)⟩,
      ⟨(some 13), none, .len (.tmp 12)⟩,
      ⟨(some 14), none, .mov (.const (.int .i64 0))⟩])
   (.block 0
     (.loop
       (.seq (.reg [
          ⟨(some 15), none, .bin .lss (.tmp 14) (.tmp 13)⟩])
       (.seq (.ite (.tmp 15)
          (.skip)
          (.exit 0))
       (.seq (.block 1
          (.seq (.reg [
             ⟨(some 16), none, .iadr 2 none (.tmp 12) (.tmp 14)⟩,
             ⟨(some 17), none, .load (.tmp 16) (some 2)⟩,
             ⟨(some 7), none, .alloc [(.int .i64 0), (.int .i64 0)]⟩,
             ⟨none, none, .store (.tmp 7) (.tmp 17) 2⟩])
          (.seq (.seq (.reg [
              ⟨(some 18), none, .fadr 0 (.tmp 7)⟩,
              ⟨(some 19), none, .load (.tmp 18) none⟩,
              ⟨(some 20), none, .mov (.tmp 4)⟩,
              ⟨(some 21), none, .bin .leq (.tmp 19) (.tmp 20)⟩,
              ⟨(some 22), none, .mov (.tmp 21)⟩,
              ⟨(some 23), (some (22, false)), .fadr 1 (.tmp 7)⟩,
              ⟨(some 24), (some (22, false)), .load (.tmp 23) none⟩,
              ⟨(some 25), (some (22, false)), .mov (.tmp 5)⟩,
              ⟨(some 26), (some (22, false)), .bin .sub (.const (.int .i64 1099511627776)) (.tmp 25)⟩,
              ⟨(some 27), (some (22, false)), .call 74 [(.tmp 24), (.const (.int .i64 0)), (.tmp 26)]⟩,
              ⟨(some 28), (some (22, false)), .un .not (.tmp 27)⟩,
              ⟨(some 29), none, .pick (.tmp 22) (.const (.bool true)) (.tmp 28)⟩])
           (.ite (.tmp 29)
             (.seq (.reg [
                ⟨(some 2), none, .mov (.const (.int .i64 0))⟩,
                ⟨(some 3), none, .mov (.const (.bool false))⟩])
             (.ret))
             (.skip)))
          (.seq (.reg [
             ⟨(some 30), none, .fadr 0 (.tmp 7)⟩,
             ⟨(some 31), none, .load (.tmp 30) none⟩,
             ⟨(some 4), none, .mov (.tmp 31)⟩])
          (.reg [
            ⟨(some 32), none, .mov (.tmp 5)⟩,
            ⟨(some 33), none, .fadr 1 (.tmp 7)⟩,
            ⟨(some 34), none, .load (.tmp 33) none⟩,
            ⟨(some 35), none, .bin .add (.tmp 32) (.tmp 34)⟩,
            ⟨(some 5), none, .mov (.tmp 35)⟩])))))
       (.reg [
         ⟨(some 36), none, .bin .add (.tmp 14) (.const (.int .i64 1))⟩,
         ⟨(some 14), none, .mov (.tmp 36)⟩])))))))
  (.seq (.reg [
     ⟨(some 37), none, .mov (.tmp 5)⟩,
     ⟨(some 2), none, .mov (.tmp 37)⟩,
     ⟨(some 3), none, .mov (.const (.bool true))⟩])
  (.ret)))))⟩
theorem st94 : stF Try.prog [] 94 = some il94 := by kernel_rfl
/-- cascade/deal.within -/
def il74 : FnIL := ⟨15, [.tmp 6],
  .seq (.reg [
     ⟨(some 6), none, .mov (.const (.bool false))⟩])
  (.seq (.reg [
     ⟨(some 7), none, .mov (.tmp 0)⟩,
     ⟨(some 8), none, .mov (.tmp 1)⟩,
     ⟨(some 9), none, .bin .geq (.tmp 7) (.tmp 8)⟩,
     ⟨(some 10), none, .mov (.tmp 9)⟩,
     ⟨(some 11), (some (10, true)), .mov (.tmp 0)⟩,
     ⟨(some 12), (some (10, true)), .mov (.tmp 2)⟩,
     ⟨(some 13), (some (10, true)), .bin .leq (.tmp 11) (.tmp 12)⟩,
     ⟨(some 14), none, .pick (.tmp 10) (.tmp 13) (.const (.bool false))⟩,
     ⟨(some 6), none, .mov (.tmp 14)⟩])
  (.ret))⟩
theorem st74 : stF Try.prog [] 74 = some il74 := by kernel_rfl
/-- cascade/deal.notes -/
def il95 : FnIL := ⟨44, [.tmp 4, .tmp 5],
  .seq (.reg [
     ⟨(some 4), none, .mov (.const (.int .i64 0))⟩,
     ⟨(some 5), none, .mov (.const (.bool false))⟩])
  (.seq (.seq (.reg [
      ⟨(some 9), none, .mov (.tmp 0)⟩,
      ⟨(some 10), none, .len (.tmp 9)⟩,
      ⟨(some 11), none, .call 74 [(.tmp 10), (.const (.int .i64 1)), (.const (.int .i64 8))]⟩,
      ⟨(some 12), none, .un .not (.tmp 11)⟩])
   (.ite (.tmp 12)
     (.seq (.reg [
        ⟨(some 4), none, .mov (.const (.int .i64 0))⟩,
        ⟨(some 5), none, .mov (.const (.bool false))⟩])
     (.ret))
     (.skip)))
  (.seq (.reg [
     ⟨(some 6), none, .mov (.const (.int .i64 0))⟩])
  (.seq (.seq (.reg [
      ⟨(some 13), none, .mov (.tmp 0)⟩,
      ⟨(some 14), none, .len (.tmp 13)⟩,
      ⟨(some 15), none, .mov (.const (.int .i64 0))⟩])
   (.block 0
     (.loop
       (.seq (.reg [
          ⟨(some 16), none, .bin .lss (.tmp 15) (.tmp 14)⟩])
       (.seq (.ite (.tmp 16)
          (.skip)
          (.exit 0))
       (.seq (.block 1
          (.seq (.reg [
             ⟨(some 17), none, .iadr 3 none (.tmp 13) (.tmp 15)⟩,
             ⟨(some 18), none, .load (.tmp 17) (some 3)⟩,
             ⟨(some 8), none, .alloc [(.int .i64 0), (.int .i64 0), (.int .i64 0)]⟩,
             ⟨none, none, .store (.tmp 8) (.tmp 18) 3⟩])
          (.seq (.seq (.reg [
              ⟨(some 19), none, .fadr 0 (.tmp 8)⟩,
              ⟨(some 20), none, .load (.tmp 19) none⟩,
              ⟨(some 21), none, .call 74 [(.tmp 20), (.const (.int .i64 0)), (.const (.int .i64 7))]⟩,
              ⟨(some 22), none, .un .not (.tmp 21)⟩,
              ⟨(some 23), none, .mov (.tmp 22)⟩,
              ⟨(some 24), (some (23, false)), .fadr 1 (.tmp 8)⟩,
              ⟨(some 25), (some (23, false)), .load (.tmp 24) none⟩,
              ⟨(some 26), (some (23, false)), .mov (.tmp 1)⟩,
              ⟨(some 27), (some (23, false)), .mov (.tmp 6)⟩,
              ⟨(some 28), (some (23, false)), .bin .sub (.tmp 26) (.tmp 27)⟩,
              ⟨(some 29), (some (23, false)), .call 74 [(.tmp 25), (.const (.int .i64 1)), (.tmp 28)]⟩,
              ⟨(some 30), (some (23, false)), .un .not (.tmp 29)⟩,
              ⟨(some 31), none, .pick (.tmp 23) (.const (.bool true)) (.tmp 30)⟩,
              ⟨(some 32), none, .mov (.tmp 31)⟩,
              ⟨(some 33), (some (32, false)), .fadr 2 (.tmp 8)⟩,
              ⟨(some 34), (some (32, false)), .load (.tmp 33) none⟩,
              ⟨(some 35), (some (32, false)), .call 74 [(.tmp 34), (.const (.int .i64 0)), (.const (.int .i64 5000))]⟩,
              ⟨(some 36), (some (32, false)), .un .not (.tmp 35)⟩,
              ⟨(some 37), none, .pick (.tmp 32) (.const (.bool true)) (.tmp 36)⟩])
           (.ite (.tmp 37)
             (.seq (.reg [
                ⟨(some 4), none, .mov (.const (.int .i64 0))⟩,
                ⟨(some 5), none, .mov (.const (.bool false))⟩])
             (.ret))
             (.skip)))
          (.reg [
            ⟨(some 38), none, .mov (.tmp 6)⟩,
            ⟨(some 39), none, .fadr 1 (.tmp 8)⟩,
            ⟨(some 40), none, .load (.tmp 39) none⟩,
            ⟨(some 41), none, .bin .add (.tmp 38) (.tmp 40)⟩,
            ⟨(some 6), none, .mov (.tmp 41)⟩]))))
       (.reg [
         ⟨(some 42), none, .bin .add (.tmp 15) (.const (.int .i64 1))⟩,
         ⟨(some 15), none, .mov (.tmp 42)⟩])))))))
  (.seq (.reg [
     ⟨(some 43), none, .mov (.tmp 6)⟩,
     ⟨(some 4), none, .mov (.tmp 43)⟩,
     ⟨(some 5), none, .mov (.const (.bool true))⟩])
  (.ret)))))⟩
theorem st95 : stF Try.prog [] 95 = some il95 := by kernel_rfl
/-- cascade/deal.terms -/
def il96 : FnIL := ⟨68, [.tmp 2],
  .seq (.reg [
     ⟨(some 1), none, .box (.tmp 0)⟩,
     ⟨(some 2), none, .mov (.const (.bool false))⟩])
  (.seq (.seq (.reg [
      ⟨(some 5), none, .fadr 10 (.tmp 1)⟩,
      ⟨(some 6), none, .fadr 0 (.tmp 5)⟩,
      ⟨(some 7), none, .load (.tmp 6) none⟩,
      ⟨(some 8), none, .fadr 10 (.tmp 1)⟩,
      ⟨(some 9), none, .fadr 1 (.tmp 8)⟩,
      ⟨(some 10), none, .load (.tmp 9) none⟩,
      ⟨(some 11), none, .fadr 10 (.tmp 1)⟩,
      ⟨(some 12), none, .fadr 2 (.tmp 11)⟩,
      ⟨(some 13), none, .load (.tmp 12) none⟩,
      ⟨(some 14), none, .fadr 10 (.tmp 1)⟩,
      ⟨(some 15), none, .fadr 3 (.tmp 14)⟩,
      ⟨(some 16), none, .load (.tmp 15) none⟩,
      ⟨(some 17), none, .fadr 10 (.tmp 1)⟩,
      ⟨(some 18), none, .fadr 4 (.tmp 17)⟩,
      ⟨(some 19), none, .load (.tmp 18) none⟩,
      ⟨(some 20), none, .mkrow [(.int .i64 0), (.int .i64 0), (.int .i64 0), (.int .i64 0), (.int .i64 0)] 5 [(0, 1, (.tmp 7)), (1, 1, (.tmp 10)), (2, 1, (.tmp 13)), (3, 1, (.tmp 16)), (4, 1, (.tmp 19))]⟩,
      ⟨(some 21), none, .len (.tmp 20)⟩,
      ⟨(some 22), none, .mov (.const (.int .i64 0))⟩])
   (.block 0
     (.loop
       (.seq (.reg [
          ⟨(some 23), none, .bin .lss (.tmp 22) (.tmp 21)⟩])
       (.seq (.ite (.tmp 23)
          (.skip)
          (.exit 0))
       (.seq (.block 1
          (.seq (.reg [
             ⟨(some 24), none, .iadr 1 none (.tmp 20) (.tmp 22)⟩,
             ⟨(some 25), none, .load (.tmp 24) none⟩,
             ⟨(some 4), none, .mov (.tmp 25)⟩])
          (.seq (.reg [
             ⟨(some 26), none, .mov (.tmp 4)⟩,
             ⟨(some 27), none, .call 74 [(.tmp 26), (.const (.int .i64 0)), (.const (.int .i64 100000))]⟩,
             ⟨(some 28), none, .un .not (.tmp 27)⟩])
          (.ite (.tmp 28)
            (.seq (.reg [
               ⟨(some 2), none, .mov (.const (.bool false))⟩])
            (.ret))
            (.skip)))))
       (.reg [
         ⟨(some 29), none, .bin .add (.tmp 22) (.const (.int .i64 1))⟩,
         ⟨(some 22), none, .mov (.tmp 29)⟩])))))))
  (.seq (.reg [
     ⟨(some 30), none, .fadr 0 (.tmp 1)⟩,
     ⟨(some 31), none, .load (.tmp 30) none⟩,
     ⟨(some 32), none, .call 74 [(.tmp 31), (.const (.int .i64 1)), (.const (.int .i64 9000))]⟩,
     ⟨(some 33), none, .mov (.tmp 32)⟩,
     ⟨(some 34), (some (33, true)), .fadr 1 (.tmp 1)⟩,
     ⟨(some 35), (some (33, true)), .load (.tmp 34) none⟩,
     ⟨(some 36), (some (33, true)), .call 74 [(.tmp 35), (.const (.int .i64 1)), (.const (.int .i64 12))]⟩,
     ⟨(some 37), none, .pick (.tmp 33) (.tmp 36) (.const (.bool false))⟩,
     ⟨(some 38), none, .mov (.tmp 37)⟩,
     ⟨(some 39), (some (38, true)), .fadr 2 (.tmp 1)⟩,
     ⟨(some 40), (some (38, true)), .load (.tmp 39) none⟩,
     ⟨(some 41), (some (38, true)), .call 74 [(.tmp 40), (.const (.int .i64 0)), (.const (.int .i64 2))]⟩,
     ⟨(some 42), none, .pick (.tmp 38) (.tmp 41) (.const (.bool false))⟩,
     ⟨(some 43), none, .mov (.tmp 42)⟩,
     ⟨(some 44), (some (43, true)), .fadr 5 (.tmp 1)⟩,
     ⟨(some 45), (some (43, true)), .load (.tmp 44) none⟩,
     ⟨(some 46), (some (43, true)), .call 74 [(.tmp 45), (.const (.int .i64 0)), (.const (.int .i64 5000))]⟩,
     ⟨(some 47), none, .pick (.tmp 43) (.tmp 46) (.const (.bool false))⟩,
     ⟨(some 48), none, .mov (.tmp 47)⟩,
     ⟨(some 49), (some (48, true)), .fadr 6 (.tmp 1)⟩,
     ⟨(some 50), (some (48, true)), .load (.tmp 49) none⟩,
     ⟨(some 51), (some (48, true)), .call 74 [(.tmp 50), (.const (.int .i64 0)), (.const (.int .i64 1099511627776))]⟩,
     ⟨(some 52), none, .pick (.tmp 48) (.tmp 51) (.const (.bool false))⟩,
     ⟨(some 53), none, .mov (.tmp 52)⟩,
     ⟨(some 54), (some (53, true)), .fadr 7 (.tmp 1)⟩,
     ⟨(some 55), (some (53, true)), .load (.tmp 54) none⟩,
     ⟨(some 56), (some (53, true)), .call 74 [(.tmp 55), (.const (.int .i64 0)), (.const (.int .i64 10000))]⟩,
     ⟨(some 57), none, .pick (.tmp 53) (.tmp 56) (.const (.bool false))⟩,
     ⟨(some 58), none, .mov (.tmp 57)⟩,
     ⟨(some 59), (some (58, true)), .fadr 8 (.tmp 1)⟩,
     ⟨(some 60), (some (58, true)), .load (.tmp 59) none⟩,
     ⟨(some 61), (some (58, true)), .call 74 [(.tmp 60), (.const (.int .i64 0)), (.const (.int .i64 1099511627776))]⟩,
     ⟨(some 62), none, .pick (.tmp 58) (.tmp 61) (.const (.bool false))⟩,
     ⟨(some 63), none, .mov (.tmp 62)⟩,
     ⟨(some 64), (some (63, true)), .fadr 9 (.tmp 1)⟩,
     ⟨(some 65), (some (63, true)), .load (.tmp 64) none⟩,
     ⟨(some 66), (some (63, true)), .call 74 [(.tmp 65), (.const (.int .i64 0)), (.const (.int .i64 600))]⟩,
     ⟨(some 67), none, .pick (.tmp 63) (.tmp 66) (.const (.bool false))⟩,
     ⟨(some 2), none, .mov (.tmp 67)⟩])
  (.ret)))⟩
theorem st96 : stF Try.prog [] 96 = some il96 := by kernel_rfl
/-- cascade/deal.Steps -/
def il40 : FnIL := ⟨39, [.tmp 2],
  .seq (.reg [
     ⟨(some 2), none, .mov (.const (.bool false))⟩])
  (.seq (.seq (.reg [
      ⟨(some 6), none, .mov (.tmp 0)⟩,
      ⟨(some 7), none, .len (.tmp 6)⟩,
      ⟨(some 8), none, .call 74 [(.tmp 7), (.const (.int .i64 1)), (.const (.int .i64 16))]⟩,
      ⟨(some 9), none, .un .not (.tmp 8)⟩])
   (.ite (.tmp 9)
     (.seq (.reg [
        ⟨(some 2), none, .mov (.const (.bool false))⟩])
     (.ret))
     (.skip)))
  (.seq (.seq (.reg [
      ⟨(some 10), none, .mov (.tmp 0)⟩,
      ⟨(some 11), none, .len (.tmp 10)⟩,
      ⟨(some 12), none, .mov (.const (.int .i64 0))⟩])
   (.block 0
     (.loop
       (.seq (.reg [
          ⟨(some 13), none, .bin .lss (.tmp 12) (.tmp 11)⟩])
       (.seq (.ite (.tmp 13)
          (.skip)
          (.exit 0))
       (.seq (.block 1
          (.seq (.reg [
             ⟨(some 14), none, .mov (.tmp 12)⟩,
             ⟨(some 15), none, .iadr 2 none (.tmp 10) (.tmp 12)⟩,
             ⟨(some 16), none, .load (.tmp 15) (some 2)⟩,
             ⟨(some 4), none, .alloc [(.int .i64 0), (.int .i64 0)]⟩,
             ⟨(some 3), none, .mov (.tmp 14)⟩,
             ⟨none, none, .store (.tmp 4) (.tmp 16) 2⟩])
          (.seq (.reg [
             ⟨(some 5), none, .mov (.const (.int .i64 0))⟩])
          (.seq (.seq (.reg [
              ⟨(some 17), none, .fadr 0 (.tmp 4)⟩,
              ⟨(some 18), none, .load (.tmp 17) none⟩,
              ⟨(some 19), none, .bin .eql (.tmp 18) (.const (.int .i64 3))⟩])
           (.ite (.tmp 19)
             (.reg [
               ⟨(some 5), none, .mov (.const (.int .i64 7))⟩])
             (.skip)))
          (.seq (.dreg [
             ⟨(some 20), none, .fadr 0 (.tmp 4)⟩,
             ⟨(some 21), none, .load (.tmp 20) none⟩,
             ⟨(some 22), none, .call 74 [(.tmp 21), (.const (.int .i64 1)), (.const (.int .i64 7))]⟩,
             ⟨(some 23), none, .un .not (.tmp 22)⟩,
             ⟨(some 24), none, .mov (.tmp 23)⟩,
             ⟨(some 25), (some (24, false)), .fadr 1 (.tmp 4)⟩,
             ⟨(some 26), (some (24, false)), .load (.tmp 25) none⟩,
             ⟨(some 27), (some (24, false)), .mov (.tmp 5)⟩,
             ⟨(some 28), (some (24, false)), .call 74 [(.tmp 26), (.const (.int .i64 0)), (.tmp 27)]⟩,
             ⟨(some 29), (some (24, false)), .un .not (.tmp 28)⟩,
             ⟨(some 30), none, .pick (.tmp 24) (.const (.bool true)) (.tmp 29)⟩,
             ⟨(some 31), none, .mov (.tmp 30)⟩,
             ⟨(some 32), (some (31, false)), .mov (.tmp 0)⟩,
             ⟨(some 33), (some (31, false)), .mov (.tmp 3)⟩,
             ⟨(some 34), (some (31, false)), .slice 2 (.tmp 32) none (some (.tmp 33)) none⟩,
             ⟨(some 35), (some (31, false)), .load (.tmp 4) (some 2)⟩,
             ⟨(some 36), (some (31, false)), .call 75 [(.tmp 34), (.tmp 35)]⟩,
             ⟨(some 37), none, .pick (.tmp 31) (.const (.bool true)) (.tmp 36)⟩] [])
          (.ite (.tmp 37)
            (.seq (.reg [
               ⟨(some 2), none, .mov (.const (.bool false))⟩])
            (.ret))
            (.skip)))))))
       (.reg [
         ⟨(some 38), none, .bin .add (.tmp 12) (.const (.int .i64 1))⟩,
         ⟨(some 12), none, .mov (.tmp 38)⟩])))))))
  (.seq (.reg [
     ⟨(some 2), none, .mov (.const (.bool true))⟩])
  (.ret))))⟩
theorem st40 : stF Try.prog [] 40 = some il40 := by kernel_rfl
/-- slices.Contains[[]cascade/api.Step,cascade/api.Step] -/
def il75 : FnIL := ⟨9, [.tmp 4],
  .seq (.reg [
     ⟨(some 3), none, .box (.tmp 1)⟩,
     ⟨(some 4), none, .mov (.const (.bool false))⟩])
  (.seq (.reg [
     ⟨(some 5), none, .mov (.tmp 0)⟩,
     ⟨(some 6), none, .load (.tmp 3) (some 2)⟩,
     ⟨(some 7), none, .call 97 [(.tmp 5), (.tmp 6)]⟩,
     ⟨(some 8), none, .bin .geq (.tmp 7) (.const (.int .i64 0))⟩,
     ⟨(some 4), none, .mov (.tmp 8)⟩])
  (.ret))⟩
theorem st75 : stF Try.prog [] 75 = some il75 := by kernel_rfl
/-- slices.Index[[]cascade/api.Step,cascade/api.Step] -/
def il97 : FnIL := ⟨19, [.tmp 4],
  .seq (.reg [
     ⟨(some 3), none, .box (.tmp 1)⟩,
     ⟨(some 4), none, .mov (.const (.int .i64 0))⟩])
  (.seq (.seq (.reg [
      ⟨(some 6), none, .mov (.tmp 0)⟩,
      ⟨(some 7), none, .len (.tmp 6)⟩,
      ⟨(some 8), none, .mov (.const (.int .i64 0))⟩])
   (.block 0
     (.loop
       (.seq (.reg [
          ⟨(some 9), none, .bin .lss (.tmp 8) (.tmp 7)⟩])
       (.seq (.ite (.tmp 9)
          (.skip)
          (.exit 0))
       (.seq (.block 1
          (.seq (.reg [
             ⟨(some 10), none, .mov (.tmp 8)⟩,
             ⟨(some 5), none, .mov (.tmp 10)⟩])
          (.seq (.dreg [
             ⟨(some 11), none, .load (.tmp 3) (some 2)⟩,
             ⟨(some 12), none, .mov (.tmp 0)⟩,
             ⟨(some 13), none, .mov (.tmp 5)⟩,
             ⟨(some 14), none, .iadr 2 none (.tmp 12) (.tmp 13)⟩,
             ⟨(some 15), none, .load (.tmp 14) (some 2)⟩,
             ⟨(some 16), none, .eqv false (.cells [false, false]) (.tmp 11) (.tmp 15)⟩] [])
          (.ite (.tmp 16)
            (.seq (.reg [
               ⟨(some 17), none, .mov (.tmp 5)⟩,
               ⟨(some 4), none, .mov (.tmp 17)⟩])
            (.ret))
            (.skip)))))
       (.reg [
         ⟨(some 18), none, .bin .add (.tmp 8) (.const (.int .i64 1))⟩,
         ⟨(some 8), none, .mov (.tmp 18)⟩])))))))
  (.seq (.reg [
     ⟨(some 4), none, .mov (.const (.int .i64 (-1)))⟩])
  (.ret)))⟩
theorem st97 : stF Try.prog [] 97 = some il97 := by kernel_rfl
/-- cascade/dealdoc.Decode -/
def il68 : FnIL := ⟨31, [.cell 2 (some 18), .tmp 3],
  .seq (.reg [
     ⟨(some 2), none, .alloc [(.int .i64 0), (.int .i64 0), (.int .i64 0), (.slice none 0 0), (.slice none 0 0), (.int .i64 0), (.int .i64 0), (.int .i64 0), (.int .i64 0), (.int .i64 0), (.int .i64 0), (.int .i64 0), (.int .i64 0), (.int .i64 0), (.int .i64 0), (.slice none 0 0), (.slice none 0 0), (.slice none 0 0)]⟩,
     ⟨(some 3), none, .mov (.const (.int .i64 0))⟩])
  (.seq (.reg [
     ⟨(some 9), none, .mov (.tmp 0)⟩,
     ⟨(some 10), none, .call 32 [(.tmp 9)]⟩,
     ⟨(some 8), none, .mov (.tmp 10)⟩,
     ⟨(some 11), none, .ext 0 (.tmp 8)⟩,
     ⟨(some 12), none, .ext 1 (.tmp 8)⟩,
     ⟨(some 4), none, .mov (.tmp 11)⟩,
     ⟨(some 5), none, .mov (.tmp 12)⟩])
  (.seq (.seq (.reg [
      ⟨(some 13), none, .mov (.tmp 5)⟩,
      ⟨(some 14), none, .un .not (.tmp 13)⟩])
   (.ite (.tmp 14)
     (.seq (.reg [
        ⟨(some 15), none, .build [(.int .i64 0), (.int .i64 0), (.int .i64 0), (.slice none 0 0), (.slice none 0 0), (.int .i64 0), (.int .i64 0), (.int .i64 0), (.int .i64 0), (.int .i64 0), (.int .i64 0), (.int .i64 0), (.int .i64 0), (.int .i64 0), (.int .i64 0), (.slice none 0 0), (.slice none 0 0), (.slice none 0 0)] []⟩,
        ⟨none, none, .store (.tmp 2) (.tmp 15) 18⟩,
        ⟨(some 3), none, .mov (.const (.int .i64 1))⟩])
     (.ret))
     (.skip)))
  (.seq (.reg [
     ⟨(some 16), none, .mov (.tmp 4)⟩,
     ⟨(some 17), none, .call 24 [(.tmp 16)]⟩,
     ⟨(some 6), none, .mov (.tmp 17)⟩])
  (.seq (.reg [
     ⟨(some 18), none, .mov (.tmp 6)⟩,
     ⟨(some 19), none, .call 92 [(.tmp 18)]⟩,
     ⟨(some 7), none, .alloc [(.int .i64 0), (.int .i64 0), (.int .i64 0), (.slice none 0 0), (.slice none 0 0), (.int .i64 0), (.int .i64 0), (.int .i64 0), (.int .i64 0), (.int .i64 0), (.int .i64 0), (.int .i64 0), (.int .i64 0), (.int .i64 0), (.int .i64 0), (.slice none 0 0), (.slice none 0 0), (.slice none 0 0)]⟩,
     ⟨none, none, .store (.tmp 7) (.tmp 19) 18⟩])
  (.seq (.block 0
     (.seq (.reg [
        ⟨(some 21), none, .mov (.tmp 6)⟩,
        ⟨(some 22), none, .call 28 [(.tmp 21)]⟩,
        ⟨(some 23), none, .un .not (.tmp 22)⟩,
        ⟨(some 20), none, .mov (.tmp 23)⟩])
     (.ite (.tmp 20)
       (.seq (.reg [
          ⟨(some 24), none, .build [(.int .i64 0), (.int .i64 0), (.int .i64 0), (.slice none 0 0), (.slice none 0 0), (.int .i64 0), (.int .i64 0), (.int .i64 0), (.int .i64 0), (.int .i64 0), (.int .i64 0), (.int .i64 0), (.int .i64 0), (.int .i64 0), (.int .i64 0), (.slice none 0 0), (.slice none 0 0), (.slice none 0 0)] []⟩,
          ⟨none, none, .store (.tmp 2) (.tmp 24) 18⟩,
          ⟨(some 3), none, .mov (.const (.int .i64 1))⟩])
       (.ret))
       (.seq (.reg [
          ⟨(some 26), none, .load (.tmp 7) (some 18)⟩,
          ⟨(some 27), none, .call 37 [(.tmp 26)]⟩,
          ⟨(some 28), none, .un .not (.tmp 27)⟩,
          ⟨(some 25), none, .mov (.tmp 28)⟩])
       (.ite (.tmp 25)
         (.seq (.reg [
            ⟨(some 29), none, .build [(.int .i64 0), (.int .i64 0), (.int .i64 0), (.slice none 0 0), (.slice none 0 0), (.int .i64 0), (.int .i64 0), (.int .i64 0), (.int .i64 0), (.int .i64 0), (.int .i64 0), (.int .i64 0), (.int .i64 0), (.int .i64 0), (.int .i64 0), (.slice none 0 0), (.slice none 0 0), (.slice none 0 0)] []⟩,
            ⟨none, none, .store (.tmp 2) (.tmp 29) 18⟩,
            ⟨(some 3), none, .mov (.const (.int .i64 2))⟩])
         (.ret))
         (.skip))))))
  (.seq (.reg [
     ⟨(some 30), none, .load (.tmp 7) (some 18)⟩,
     ⟨none, none, .store (.tmp 2) (.tmp 30) 18⟩,
     ⟨(some 3), none, .mov (.const (.int .i64 0))⟩])
  (.ret)))))))⟩
theorem st68 : stF Try.prog [] 68 = some il68 := by kernel_rfl
/-- cascade/word.Read -/
def il24 : FnIL := ⟨7, [.tmp 2],
  .seq (.reg [
     ⟨(some 2), none, .mov (.const (.pointer none))⟩])
  (.seq (.reg [
     ⟨(some 3), none, .mov (.tmp 0)⟩,
     ⟨(some 4), none, .call 70 [(.tmp 3)]⟩,
     ⟨(some 5), none, .build [(.slice none 0 0), (.bool false)] [(0, 1, (.tmp 4))]⟩,
     ⟨(some 6), none, .box (.tmp 5)⟩,
     ⟨(some 2), none, .mov (.tmp 6)⟩])
  (.ret))⟩
theorem st24 : stF Try.prog [] 24 = some il24 := by kernel_rfl
/-- slices.Clone[[]int,int] -/
def il70 : FnIL := ⟨8, [.tmp 2],
  .seq (.reg [
     ⟨(some 2), none, .mov (.const (.slice none 0 0))⟩])
  (.seq (.seq (.reg [
      ⟨(some 3), none, .mov (.tmp 0)⟩,
      ⟨(some 4), none, .eqv false .slc (.tmp 3) (.const (.slice none 0 0))⟩])
   (.ite (.tmp 4)
     (.seq (.reg [
        ⟨(some 2), none, .mov (.const (.slice none 0 0))⟩])
     (.ret))
     (.skip)))
  (.seq (.reg [
     ⟨(some 5), none, .mkrow [] 0 []⟩,
     ⟨(some 6), none, .mov (.tmp 0)⟩,
     ⟨(some 7), none, .append 1 8 (.tmp 5) (.tmp 6)⟩,
     ⟨(some 2), none, .mov (.tmp 7)⟩])
  (.ret)))⟩
theorem st70 : stF Try.prog [] 70 = some il70 := by kernel_rfl
/-- cascade/dealdoc.read -/
def il92 : FnIL := ⟨100, [.cell 2 (some 18)],
  .seq (.reg [
     ⟨(some 2), none, .alloc [(.int .i64 0), (.int .i64 0), (.int .i64 0), (.slice none 0 0), (.slice none 0 0), (.int .i64 0), (.int .i64 0), (.int .i64 0), (.int .i64 0), (.int .i64 0), (.int .i64 0), (.int .i64 0), (.int .i64 0), (.int .i64 0), (.int .i64 0), (.slice none 0 0), (.slice none 0 0), (.slice none 0 0)]⟩])
  (.seq (.reg [
     ⟨(some 3), none, .alloc [(.int .i64 0), (.int .i64 0), (.int .i64 0), (.slice none 0 0), (.slice none 0 0), (.int .i64 0), (.int .i64 0), (.int .i64 0), (.int .i64 0), (.int .i64 0), (.int .i64 0), (.int .i64 0), (.int .i64 0), (.int .i64 0), (.int .i64 0), (.slice none 0 0), (.slice none 0 0), (.slice none 0 0)]⟩])
  (.seq (.seq (.reg [
      ⟨(some 11), none, .fadr 0 (.tmp 3)⟩,
      ⟨(some 12), none, .fadr 1 (.tmp 3)⟩,
      ⟨(some 13), none, .fadr 2 (.tmp 3)⟩,
      ⟨(some 14), none, .fadr 5 (.tmp 3)⟩,
      ⟨(some 15), none, .fadr 6 (.tmp 3)⟩,
      ⟨(some 16), none, .fadr 7 (.tmp 3)⟩,
      ⟨(some 17), none, .fadr 8 (.tmp 3)⟩,
      ⟨(some 18), none, .fadr 9 (.tmp 3)⟩,
      ⟨(some 19), none, .fadr 10 (.tmp 3)⟩,
      ⟨(some 20), none, .fadr 0 (.tmp 19)⟩,
      ⟨(some 21), none, .fadr 10 (.tmp 3)⟩,
      ⟨(some 22), none, .fadr 1 (.tmp 21)⟩,
      ⟨(some 23), none, .fadr 10 (.tmp 3)⟩,
      ⟨(some 24), none, .fadr 2 (.tmp 23)⟩,
      ⟨(some 25), none, .fadr 10 (.tmp 3)⟩,
      ⟨(some 26), none, .fadr 3 (.tmp 25)⟩,
      ⟨(some 27), none, .fadr 10 (.tmp 3)⟩,
      ⟨(some 28), none, .fadr 4 (.tmp 27)⟩,
      ⟨(some 29), none, .mkrow [(.pointer none), (.pointer none), (.pointer none), (.pointer none), (.pointer none), (.pointer none), (.pointer none), (.pointer none), (.pointer none), (.pointer none), (.pointer none), (.pointer none), (.pointer none)] 13 [(0, 1, (.tmp 11)), (1, 1, (.tmp 12)), (2, 1, (.tmp 13)), (3, 1, (.tmp 14)), (4, 1, (.tmp 15)), (5, 1, (.tmp 16)), (6, 1, (.tmp 17)), (7, 1, (.tmp 18)), (8, 1, (.tmp 20)), (9, 1, (.tmp 22)), (10, 1, (.tmp 24)), (11, 1, (.tmp 26)), (12, 1, (.tmp 28))]⟩,
      ⟨(some 30), none, .len (.tmp 29)⟩,
      ⟨(some 31), none, .mov (.const (.int .i64 0))⟩])
   (.block 0
     (.loop
       (.seq (.reg [
          ⟨(some 32), none, .bin .lss (.tmp 31) (.tmp 30)⟩])
       (.seq (.ite (.tmp 32)
          (.skip)
          (.exit 0))
       (.seq (.block 1
          (.seq (.reg [
             ⟨(some 33), none, .iadr 1 none (.tmp 29) (.tmp 31)⟩,
             ⟨(some 34), none, .load (.tmp 33) none⟩,
             ⟨(some 5), none, .mov (.tmp 34)⟩])
          (.reg [
            ⟨(some 35), none, .mov (.tmp 5)⟩,
            ⟨(some 36), none, .mov (.tmp 0)⟩,
            ⟨(some 37), none, .call 29 [(.tmp 36)]⟩,
            ⟨(some 38), none, .nilck (.tmp 35)⟩,
            ⟨none, none, .store (.tmp 38) (.tmp 37) 1⟩])))
       (.reg [
         ⟨(some 39), none, .bin .add (.tmp 31) (.const (.int .i64 1))⟩,
         ⟨(some 31), none, .mov (.tmp 39)⟩])))))))
  (.seq (.seq (.reg [
      ⟨(some 40), none, .mov (.tmp 0)⟩,
      ⟨(some 41), none, .call 25 [(.tmp 40), (.const (.int .i64 64))]⟩,
      ⟨(some 42), none, .mov (.const (.int .i64 0))⟩])
   (.block 2
     (.loop
       (.seq (.reg [
          ⟨(some 43), none, .bin .lss (.tmp 42) (.tmp 41)⟩])
       (.seq (.ite (.tmp 43)
          (.skip)
          (.exit 2))
       (.seq (.block 3
          (.seq (.reg [
             ⟨(some 44), none, .mov (.tmp 0)⟩,
             ⟨(some 45), none, .call 29 [(.tmp 44)]⟩,
             ⟨(some 6), none, .mov (.tmp 45)⟩])
          (.dreg [
            ⟨(some 46), none, .fadr 3 (.tmp 3)⟩,
            ⟨(some 47), none, .load (.tmp 46) none⟩,
            ⟨(some 48), none, .mov (.tmp 6)⟩,
            ⟨(some 49), none, .mov (.tmp 0)⟩,
            ⟨(some 50), none, .call 29 [(.tmp 49)]⟩,
            ⟨(some 51), none, .build [(.int .i64 0), (.int .i64 0)] [(0, 1, (.tmp 48)), (1, 1, (.tmp 50))]⟩,
            ⟨(some 52), none, .mkrow [(.int .i64 0), (.int .i64 0)] 1 [(0, 2, (.tmp 51))]⟩,
            ⟨(some 53), none, .append 2 16 (.tmp 47) (.tmp 52)⟩,
            ⟨(some 54), none, .fadr 3 (.tmp 3)⟩,
            ⟨none, none, .store (.tmp 54) (.tmp 53) 1⟩] [(1, 4)])))
       (.reg [
         ⟨(some 55), none, .bin .add (.tmp 42) (.const (.int .i64 1))⟩,
         ⟨(some 42), none, .mov (.tmp 55)⟩])))))))
  (.seq (.seq (.reg [
      ⟨(some 56), none, .mov (.tmp 0)⟩,
      ⟨(some 57), none, .call 25 [(.tmp 56), (.const (.int .i64 8))]⟩,
      ⟨(some 58), none, .mov (.const (.int .i64 0))⟩])
   (.block 4
     (.loop
       (.seq (.reg [
          ⟨(some 59), none, .bin .lss (.tmp 58) (.tmp 57)⟩])
       (.seq (.ite (.tmp 59)
          (.skip)
          (.exit 4))
       (.seq (.block 5
          (.seq (.reg [
             ⟨(some 60), none, .mov (.tmp 0)⟩,
             ⟨(some 61), none, .call 29 [(.tmp 60)]⟩,
             ⟨(some 7), none, .mov (.tmp 61)⟩])
          (.seq (.reg [
             ⟨(some 62), none, .mov (.tmp 0)⟩,
             ⟨(some 63), none, .call 29 [(.tmp 62)]⟩,
             ⟨(some 8), none, .mov (.tmp 63)⟩])
          (.dreg [
            ⟨(some 64), none, .fadr 4 (.tmp 3)⟩,
            ⟨(some 65), none, .load (.tmp 64) none⟩,
            ⟨(some 66), none, .mov (.tmp 7)⟩,
            ⟨(some 67), none, .mov (.tmp 8)⟩,
            ⟨(some 68), none, .mov (.tmp 0)⟩,
            ⟨(some 69), none, .call 29 [(.tmp 68)]⟩,
            ⟨(some 70), none, .build [(.int .i64 0), (.int .i64 0), (.int .i64 0)] [(0, 1, (.tmp 66)), (1, 1, (.tmp 67)), (2, 1, (.tmp 69))]⟩,
            ⟨(some 71), none, .mkrow [(.int .i64 0), (.int .i64 0), (.int .i64 0)] 1 [(0, 3, (.tmp 70))]⟩,
            ⟨(some 72), none, .append 3 24 (.tmp 65) (.tmp 71)⟩,
            ⟨(some 73), none, .fadr 4 (.tmp 3)⟩,
            ⟨none, none, .store (.tmp 73) (.tmp 72) 1⟩] [(1, 5)]))))
       (.reg [
         ⟨(some 74), none, .bin .add (.tmp 58) (.const (.int .i64 1))⟩,
         ⟨(some 58), none, .mov (.tmp 74)⟩])))))))
  (.seq (.seq (.reg [
      ⟨(some 75), none, .mov (.const (.int .i64 0))⟩])
   (.block 6
     (.loop
       (.seq (.reg [
          ⟨(some 76), none, .bin .lss (.tmp 75) (.const (.int .i64 3))⟩])
       (.seq (.ite (.tmp 76)
          (.skip)
          (.exit 6))
       (.seq (.block 7
          (.seq (.reg [
             ⟨(some 77), none, .mov (.tmp 75)⟩,
             ⟨(some 9), none, .mov (.tmp 77)⟩])
          (.seq (.reg [
             ⟨(some 78), none, .mov (.tmp 0)⟩,
             ⟨(some 79), none, .call 25 [(.tmp 78), (.const (.int .i64 16))]⟩,
             ⟨(some 80), none, .mov (.const (.int .i64 0))⟩])
          (.block 8
            (.loop
              (.seq (.reg [
                 ⟨(some 81), none, .bin .lss (.tmp 80) (.tmp 79)⟩])
              (.seq (.ite (.tmp 81)
                 (.skip)
                 (.exit 8))
              (.seq (.block 9
                 (.seq (.reg [
                    ⟨(some 82), none, .mov (.tmp 0)⟩,
                    ⟨(some 83), none, .call 29 [(.tmp 82)]⟩,
                    ⟨(some 10), none, .mov (.tmp 83)⟩])
                 (.dreg [
                   ⟨(some 84), none, .mov (.tmp 9)⟩,
                   ⟨(some 85), none, .mov (.tmp 9)⟩,
                   ⟨(some 86), none, .fadr 15 (.tmp 3)⟩,
                   ⟨(some 87), none, .iadr 1 (some 3) (.tmp 86) (.tmp 85)⟩,
                   ⟨(some 88), none, .load (.tmp 87) none⟩,
                   ⟨(some 89), none, .mov (.tmp 10)⟩,
                   ⟨(some 90), none, .mov (.tmp 0)⟩,
                   ⟨(some 91), none, .call 29 [(.tmp 90)]⟩,
                   ⟨(some 92), none, .build [(.int .i64 0), (.int .i64 0)] [(0, 1, (.tmp 89)), (1, 1, (.tmp 91))]⟩,
                   ⟨(some 93), none, .mkrow [(.int .i64 0), (.int .i64 0)] 1 [(0, 2, (.tmp 92))]⟩,
                   ⟨(some 94), none, .append 2 16 (.tmp 88) (.tmp 93)⟩,
                   ⟨(some 95), none, .fadr 15 (.tmp 3)⟩,
                   ⟨(some 96), none, .iadr 1 (some 3) (.tmp 95) (.tmp 84)⟩,
                   ⟨none, none, .store (.tmp 96) (.tmp 94) 1⟩] [(4, 7)])))
              (.reg [
                ⟨(some 97), none, .bin .add (.tmp 80) (.const (.int .i64 1))⟩,
                ⟨(some 80), none, .mov (.tmp 97)⟩])))))))))
       (.reg [
         ⟨(some 98), none, .bin .add (.tmp 75) (.const (.int .i64 1))⟩,
         ⟨(some 75), none, .mov (.tmp 98)⟩])))))))
  (.seq (.reg [
     ⟨(some 99), none, .load (.tmp 3) (some 18)⟩,
     ⟨none, none, .store (.tmp 2) (.tmp 99) 18⟩])
  (.ret)))))))⟩
theorem st92 : stF Try.prog [] 92 = some il92 := by kernel_rfl
/-- (*cascade/word.Reader).Next -/
def il29 : FnIL := ⟨34, [.tmp 2],
  .seq (.reg [
     ⟨(some 2), none, .mov (.const (.int .i64 0))⟩])
  (.seq (.seq (.reg [
      ⟨(some 4), none, .mov (.tmp 0)⟩,
      ⟨(some 5), none, .nilck (.tmp 4)⟩,
      ⟨(some 6), none, .fadr 1 (.tmp 5)⟩,
      ⟨(some 7), none, .load (.tmp 6) none⟩,
      ⟨(some 8), none, .mov (.tmp 7)⟩,
      ⟨(some 9), (some (8, false)), .mov (.tmp 0)⟩,
      ⟨(some 10), (some (8, false)), .nilck (.tmp 9)⟩,
      ⟨(some 11), (some (8, false)), .fadr 0 (.tmp 10)⟩,
      ⟨(some 12), (some (8, false)), .load (.tmp 11) none⟩,
      ⟨(some 13), (some (8, false)), .len (.tmp 12)⟩,
      ⟨(some 14), (some (8, false)), .bin .eql (.tmp 13) (.const (.int .i64 0))⟩,
      ⟨(some 15), none, .pick (.tmp 8) (.const (.bool true)) (.tmp 14)⟩])
   (.ite (.tmp 15)
     (.seq (.reg [
        ⟨(some 16), none, .mov (.tmp 0)⟩,
        ⟨(some 17), none, .nilck (.tmp 16)⟩,
        ⟨(some 18), none, .fadr 1 (.tmp 17)⟩,
        ⟨none, none, .store (.tmp 18) (.const (.bool true)) 1⟩])
     (.seq (.reg [
        ⟨(some 2), none, .mov (.const (.int .i64 0))⟩])
     (.ret)))
     (.skip)))
  (.seq (.reg [
     ⟨(some 19), none, .mov (.tmp 0)⟩,
     ⟨(some 20), none, .nilck (.tmp 19)⟩,
     ⟨(some 21), none, .fadr 0 (.tmp 20)⟩,
     ⟨(some 22), none, .load (.tmp 21) none⟩,
     ⟨(some 23), none, .iadr 1 none (.tmp 22) (.const (.int .i64 0))⟩,
     ⟨(some 24), none, .load (.tmp 23) none⟩,
     ⟨(some 3), none, .mov (.tmp 24)⟩])
  (.seq (.reg [
     ⟨(some 25), none, .mov (.tmp 0)⟩,
     ⟨(some 26), none, .mov (.tmp 0)⟩,
     ⟨(some 27), none, .nilck (.tmp 26)⟩,
     ⟨(some 28), none, .fadr 0 (.tmp 27)⟩,
     ⟨(some 29), none, .load (.tmp 28) none⟩,
     ⟨(some 30), none, .slice 1 (.tmp 29) (some (.const (.int .i64 1))) none none⟩,
     ⟨(some 31), none, .nilck (.tmp 25)⟩,
     ⟨(some 32), none, .fadr 0 (.tmp 31)⟩,
     ⟨none, none, .store (.tmp 32) (.tmp 30) 1⟩])
  (.seq (.reg [
     ⟨(some 33), none, .mov (.tmp 3)⟩,
     ⟨(some 2), none, .mov (.tmp 33)⟩])
  (.ret)))))⟩
theorem st29 : stF Try.prog [] 29 = some il29 := by kernel_rfl
/-- (*cascade/word.Reader).Many -/
def il25 : FnIL := ⟨19, [.tmp 4],
  .seq (.reg [
     ⟨(some 4), none, .mov (.const (.int .i64 0))⟩])
  (.seq (.reg [
     ⟨(some 6), none, .mov (.tmp 0)⟩,
     ⟨(some 7), none, .call 29 [(.tmp 6)]⟩,
     ⟨(some 5), none, .mov (.tmp 7)⟩])
  (.seq (.seq (.reg [
      ⟨(some 8), none, .mov (.tmp 5)⟩,
      ⟨(some 9), none, .bin .lss (.tmp 8) (.const (.int .i64 0))⟩,
      ⟨(some 10), none, .mov (.tmp 9)⟩,
      ⟨(some 11), (some (10, false)), .mov (.tmp 5)⟩,
      ⟨(some 12), (some (10, false)), .mov (.tmp 1)⟩,
      ⟨(some 13), (some (10, false)), .bin .gtr (.tmp 11) (.tmp 12)⟩,
      ⟨(some 14), none, .pick (.tmp 10) (.const (.bool true)) (.tmp 13)⟩])
   (.ite (.tmp 14)
     (.seq (.reg [
        ⟨(some 15), none, .mov (.tmp 0)⟩,
        ⟨(some 16), none, .nilck (.tmp 15)⟩,
        ⟨(some 17), none, .fadr 1 (.tmp 16)⟩,
        ⟨none, none, .store (.tmp 17) (.const (.bool true)) 1⟩])
     (.seq (.reg [
        ⟨(some 4), none, .mov (.const (.int .i64 0))⟩])
     (.ret)))
     (.skip)))
  (.seq (.reg [
     ⟨(some 18), none, .mov (.tmp 5)⟩,
     ⟨(some 4), none, .mov (.tmp 18)⟩])
  (.ret))))⟩
theorem st25 : stF Try.prog [] 25 = some il25 := by kernel_rfl
/-- (*cascade/word.Reader).Done -/
def il28 : FnIL := ⟨16, [.tmp 2],
  .seq (.reg [
     ⟨(some 2), none, .mov (.const (.bool false))⟩])
  (.seq (.reg [
     ⟨(some 3), none, .mov (.tmp 0)⟩,
     ⟨(some 4), none, .nilck (.tmp 3)⟩,
     ⟨(some 5), none, .fadr 1 (.tmp 4)⟩,
     ⟨(some 6), none, .load (.tmp 5) none⟩,
     ⟨(some 7), none, .un .not (.tmp 6)⟩,
     ⟨(some 8), none, .mov (.tmp 7)⟩,
     ⟨(some 9), (some (8, true)), .mov (.tmp 0)⟩,
     ⟨(some 10), (some (8, true)), .nilck (.tmp 9)⟩,
     ⟨(some 11), (some (8, true)), .fadr 0 (.tmp 10)⟩,
     ⟨(some 12), (some (8, true)), .load (.tmp 11) none⟩,
     ⟨(some 13), (some (8, true)), .len (.tmp 12)⟩,
     ⟨(some 14), (some (8, true)), .bin .eql (.tmp 13) (.const (.int .i64 0))⟩,
     ⟨(some 15), none, .pick (.tmp 8) (.tmp 14) (.const (.bool false))⟩,
     ⟨(some 2), none, .mov (.tmp 15)⟩])
  (.ret))⟩
theorem st28 : stF Try.prog [] 28 = some il28 := by kernel_rfl
/-- cascade/cascadekeep.Deals -/
def il44 : FnIL := ⟨95, [.tmp 4],
  .seq (.reg [
     ⟨(some 2), none, .box (.tmp 0)⟩,
     ⟨(some 3), none, .box (.tmp 1)⟩,
     ⟨(some 4), none, .mov (.const (.bool false))⟩])
  (.seq (.seq (.reg [
      ⟨(some 6), none, .mov (.const (.int .i64 0))⟩])
   (.block 0
     (.loop
       (.seq (.reg [
          ⟨(some 7), none, .bin .lss (.tmp 6) (.const (.int .i64 3))⟩])
       (.seq (.ite (.tmp 7)
          (.skip)
          (.exit 0))
       (.seq (.block 1
          (.seq (.reg [
             ⟨(some 8), none, .mov (.tmp 6)⟩,
             ⟨(some 5), none, .mov (.tmp 8)⟩])
          (.seq (.dreg [
             ⟨(some 9), none, .mov (.tmp 5)⟩,
             ⟨(some 10), none, .fadr 15 (.tmp 2)⟩,
             ⟨(some 11), none, .iadr 1 (some 3) (.tmp 10) (.tmp 9)⟩,
             ⟨(some 12), none, .load (.tmp 11) none⟩,
             ⟨(some 13), none, .mov (.tmp 5)⟩,
             ⟨(some 14), none, .fadr 15 (.tmp 3)⟩,
             ⟨(some 15), none, .iadr 1 (some 3) (.tmp 14) (.tmp 13)⟩,
             ⟨(some 16), none, .load (.tmp 15) none⟩,
             ⟨(some 17), none, .call 81 [(.tmp 12), (.tmp 16)]⟩,
             ⟨(some 18), none, .un .not (.tmp 17)⟩] [])
          (.ite (.tmp 18)
            (.seq (.reg [
               ⟨(some 4), none, .mov (.const (.bool false))⟩])
            (.ret))
            (.skip)))))
       (.reg [
         ⟨(some 19), none, .bin .add (.tmp 6) (.const (.int .i64 1))⟩,
         ⟨(some 6), none, .mov (.tmp 19)⟩])))))))
  (.seq (.reg [
     ⟨(some 20), none, .fadr 0 (.tmp 2)⟩,
     ⟨(some 21), none, .load (.tmp 20) none⟩,
     ⟨(some 22), none, .fadr 0 (.tmp 3)⟩,
     ⟨(some 23), none, .load (.tmp 22) none⟩,
     ⟨(some 24), none, .bin .eql (.tmp 21) (.tmp 23)⟩,
     ⟨(some 25), none, .mov (.tmp 24)⟩,
     ⟨(some 26), (some (25, true)), .fadr 1 (.tmp 2)⟩,
     ⟨(some 27), (some (25, true)), .load (.tmp 26) none⟩,
     ⟨(some 28), (some (25, true)), .fadr 1 (.tmp 3)⟩,
     ⟨(some 29), (some (25, true)), .load (.tmp 28) none⟩,
     ⟨(some 30), (some (25, true)), .bin .eql (.tmp 27) (.tmp 29)⟩,
     ⟨(some 31), none, .pick (.tmp 25) (.tmp 30) (.const (.bool false))⟩,
     ⟨(some 32), none, .mov (.tmp 31)⟩,
     ⟨(some 33), (some (32, true)), .fadr 2 (.tmp 2)⟩,
     ⟨(some 34), (some (32, true)), .load (.tmp 33) none⟩,
     ⟨(some 35), (some (32, true)), .fadr 2 (.tmp 3)⟩,
     ⟨(some 36), (some (32, true)), .load (.tmp 35) none⟩,
     ⟨(some 37), (some (32, true)), .bin .eql (.tmp 34) (.tmp 36)⟩,
     ⟨(some 38), none, .pick (.tmp 32) (.tmp 37) (.const (.bool false))⟩,
     ⟨(some 39), none, .mov (.tmp 38)⟩,
     ⟨(some 40), (some (39, true)), .fadr 5 (.tmp 2)⟩,
     ⟨(some 41), (some (39, true)), .load (.tmp 40) none⟩,
     ⟨(some 42), (some (39, true)), .fadr 5 (.tmp 3)⟩,
     ⟨(some 43), (some (39, true)), .load (.tmp 42) none⟩,
     ⟨(some 44), (some (39, true)), .bin .eql (.tmp 41) (.tmp 43)⟩,
     ⟨(some 45), none, .pick (.tmp 39) (.tmp 44) (.const (.bool false))⟩,
     ⟨(some 46), none, .mov (.tmp 45)⟩,
     ⟨(some 47), (some (46, true)), .fadr 6 (.tmp 2)⟩,
     ⟨(some 48), (some (46, true)), .load (.tmp 47) none⟩,
     ⟨(some 49), (some (46, true)), .fadr 6 (.tmp 3)⟩,
     ⟨(some 50), (some (46, true)), .load (.tmp 49) none⟩,
     ⟨(some 51), (some (46, true)), .bin .eql (.tmp 48) (.tmp 50)⟩,
     ⟨(some 52), none, .pick (.tmp 46) (.tmp 51) (.const (.bool false))⟩,
     ⟨(some 53), none, .mov (.tmp 52)⟩,
     ⟨(some 54), (some (53, true)), .fadr 7 (.tmp 2)⟩,
     ⟨(some 55), (some (53, true)), .load (.tmp 54) none⟩,
     ⟨(some 56), (some (53, true)), .fadr 7 (.tmp 3)⟩,
     ⟨(some 57), (some (53, true)), .load (.tmp 56) none⟩,
     ⟨(some 58), (some (53, true)), .bin .eql (.tmp 55) (.tmp 57)⟩,
     ⟨(some 59), none, .pick (.tmp 53) (.tmp 58) (.const (.bool false))⟩,
     ⟨(some 60), none, .mov (.tmp 59)⟩,
     ⟨(some 61), (some (60, true)), .fadr 8 (.tmp 2)⟩,
     ⟨(some 62), (some (60, true)), .load (.tmp 61) none⟩,
     ⟨(some 63), (some (60, true)), .fadr 8 (.tmp 3)⟩,
     ⟨(some 64), (some (60, true)), .load (.tmp 63) none⟩,
     ⟨(some 65), (some (60, true)), .bin .eql (.tmp 62) (.tmp 64)⟩,
     ⟨(some 66), none, .pick (.tmp 60) (.tmp 65) (.const (.bool false))⟩,
     ⟨(some 67), none, .mov (.tmp 66)⟩,
     ⟨(some 68), (some (67, true)), .fadr 9 (.tmp 2)⟩,
     ⟨(some 69), (some (67, true)), .load (.tmp 68) none⟩,
     ⟨(some 70), (some (67, true)), .fadr 9 (.tmp 3)⟩,
     ⟨(some 71), (some (67, true)), .load (.tmp 70) none⟩,
     ⟨(some 72), (some (67, true)), .bin .eql (.tmp 69) (.tmp 71)⟩,
     ⟨(some 73), none, .pick (.tmp 67) (.tmp 72) (.const (.bool false))⟩,
     ⟨(some 74), none, .mov (.tmp 73)⟩,
     ⟨(some 75), (some (74, true)), .fadr 10 (.tmp 2)⟩,
     ⟨(some 76), (some (74, true)), .load (.tmp 75) (some 5)⟩,
     ⟨(some 77), (some (74, true)), .fadr 10 (.tmp 3)⟩,
     ⟨(some 78), (some (74, true)), .load (.tmp 77) (some 5)⟩,
     ⟨(some 79), (some (74, true)), .eqv false (.cells [false, false, false, false, false]) (.tmp 76) (.tmp 78)⟩,
     ⟨(some 80), none, .pick (.tmp 74) (.tmp 79) (.const (.bool false))⟩,
     ⟨(some 81), none, .mov (.tmp 80)⟩,
     ⟨(some 82), (some (81, true)), .fadr 3 (.tmp 2)⟩,
     ⟨(some 83), (some (81, true)), .load (.tmp 82) none⟩,
     ⟨(some 84), (some (81, true)), .fadr 3 (.tmp 3)⟩,
     ⟨(some 85), (some (81, true)), .load (.tmp 84) none⟩,
     ⟨(some 86), (some (81, true)), .call 82 [(.tmp 83), (.tmp 85)]⟩,
     ⟨(some 87), none, .pick (.tmp 81) (.tmp 86) (.const (.bool false))⟩,
     ⟨(some 88), none, .mov (.tmp 87)⟩,
     ⟨(some 89), (some (88, true)), .fadr 4 (.tmp 2)⟩,
     ⟨(some 90), (some (88, true)), .load (.tmp 89) none⟩,
     ⟨(some 91), (some (88, true)), .fadr 4 (.tmp 3)⟩,
     ⟨(some 92), (some (88, true)), .load (.tmp 91) none⟩,
     ⟨(some 93), (some (88, true)), .call 83 [(.tmp 90), (.tmp 92)]⟩,
     ⟨(some 94), none, .pick (.tmp 88) (.tmp 93) (.const (.bool false))⟩,
     ⟨(some 4), none, .mov (.tmp 94)⟩])
  (.ret)))⟩
theorem st44 : stF Try.prog [] 44 = some il44 := by kernel_rfl
/-- cascade/cascadebook.Same[cascade/api.Step] -/
def il81 : FnIL := ⟨26, [.tmp 4],
  .seq (.reg [
     ⟨(some 4), none, .mov (.const (.bool false))⟩])
  (.seq (.seq (.reg [
      ⟨(some 6), none, .mov (.tmp 0)⟩,
      ⟨(some 7), none, .len (.tmp 6)⟩,
      ⟨(some 8), none, .mov (.tmp 1)⟩,
      ⟨(some 9), none, .len (.tmp 8)⟩,
      ⟨(some 10), none, .bin .neq (.tmp 7) (.tmp 9)⟩])
   (.ite (.tmp 10)
     (.seq (.reg [
        ⟨(some 4), none, .mov (.const (.bool false))⟩])
     (.ret))
     (.skip)))
  (.seq (.seq (.reg [
      ⟨(some 5), none, .mov (.const (.int .i64 0))⟩])
   (.block 0
     (.loop
       (.seq (.seq (.reg [
           ⟨(some 11), none, .mov (.tmp 5)⟩,
           ⟨(some 12), none, .mov (.tmp 0)⟩,
           ⟨(some 13), none, .len (.tmp 12)⟩,
           ⟨(some 14), none, .bin .lss (.tmp 11) (.tmp 13)⟩])
        (.ite (.tmp 14)
          (.skip)
          (.exit 0)))
       (.seq (.block 1
          (.seq (.dreg [
             ⟨(some 17), none, .mov (.tmp 0)⟩,
             ⟨(some 18), none, .mov (.tmp 5)⟩,
             ⟨(some 19), none, .iadr 2 none (.tmp 17) (.tmp 18)⟩,
             ⟨(some 20), none, .load (.tmp 19) (some 2)⟩,
             ⟨(some 21), none, .mov (.tmp 1)⟩,
             ⟨(some 22), none, .mov (.tmp 5)⟩,
             ⟨(some 23), none, .iadr 2 none (.tmp 21) (.tmp 22)⟩,
             ⟨(some 24), none, .load (.tmp 23) (some 2)⟩,
             ⟨(some 25), none, .eqv true (.cells [false, false]) (.tmp 20) (.tmp 24)⟩] [])
          (.ite (.tmp 25)
            (.seq (.reg [
               ⟨(some 4), none, .mov (.const (.bool false))⟩])
            (.ret))
            (.skip))))
       (.reg [
         ⟨(some 15), none, .mov (.tmp 5)⟩,
         ⟨(some 16), none, .bin .add (.tmp 15) (.const (.int .i64 1))⟩,
         ⟨(some 5), none, .mov (.tmp 16)⟩]))))))
  (.seq (.reg [
     ⟨(some 4), none, .mov (.const (.bool true))⟩])
  (.ret))))⟩
theorem st81 : stF Try.prog [] 81 = some il81 := by kernel_rfl
/-- cascade/cascadebook.Same[cascade/api.Loan] -/
def il82 : FnIL := ⟨26, [.tmp 4],
  .seq (.reg [
     ⟨(some 4), none, .mov (.const (.bool false))⟩])
  (.seq (.seq (.reg [
      ⟨(some 6), none, .mov (.tmp 0)⟩,
      ⟨(some 7), none, .len (.tmp 6)⟩,
      ⟨(some 8), none, .mov (.tmp 1)⟩,
      ⟨(some 9), none, .len (.tmp 8)⟩,
      ⟨(some 10), none, .bin .neq (.tmp 7) (.tmp 9)⟩])
   (.ite (.tmp 10)
     (.seq (.reg [
        ⟨(some 4), none, .mov (.const (.bool false))⟩])
     (.ret))
     (.skip)))
  (.seq (.seq (.reg [
      ⟨(some 5), none, .mov (.const (.int .i64 0))⟩])
   (.block 0
     (.loop
       (.seq (.seq (.reg [
           ⟨(some 11), none, .mov (.tmp 5)⟩,
           ⟨(some 12), none, .mov (.tmp 0)⟩,
           ⟨(some 13), none, .len (.tmp 12)⟩,
           ⟨(some 14), none, .bin .lss (.tmp 11) (.tmp 13)⟩])
        (.ite (.tmp 14)
          (.skip)
          (.exit 0)))
       (.seq (.block 1
          (.seq (.dreg [
             ⟨(some 17), none, .mov (.tmp 0)⟩,
             ⟨(some 18), none, .mov (.tmp 5)⟩,
             ⟨(some 19), none, .iadr 2 none (.tmp 17) (.tmp 18)⟩,
             ⟨(some 20), none, .load (.tmp 19) (some 2)⟩,
             ⟨(some 21), none, .mov (.tmp 1)⟩,
             ⟨(some 22), none, .mov (.tmp 5)⟩,
             ⟨(some 23), none, .iadr 2 none (.tmp 21) (.tmp 22)⟩,
             ⟨(some 24), none, .load (.tmp 23) (some 2)⟩,
             ⟨(some 25), none, .eqv true (.cells [false, false]) (.tmp 20) (.tmp 24)⟩] [])
          (.ite (.tmp 25)
            (.seq (.reg [
               ⟨(some 4), none, .mov (.const (.bool false))⟩])
            (.ret))
            (.skip))))
       (.reg [
         ⟨(some 15), none, .mov (.tmp 5)⟩,
         ⟨(some 16), none, .bin .add (.tmp 15) (.const (.int .i64 1))⟩,
         ⟨(some 5), none, .mov (.tmp 16)⟩]))))))
  (.seq (.reg [
     ⟨(some 4), none, .mov (.const (.bool true))⟩])
  (.ret))))⟩
theorem st82 : stF Try.prog [] 82 = some il82 := by kernel_rfl
/-- cascade/cascadebook.Same[cascade/api.Terms] -/
def il83 : FnIL := ⟨26, [.tmp 4],
  .seq (.reg [
     ⟨(some 4), none, .mov (.const (.bool false))⟩])
  (.seq (.seq (.reg [
      ⟨(some 6), none, .mov (.tmp 0)⟩,
      ⟨(some 7), none, .len (.tmp 6)⟩,
      ⟨(some 8), none, .mov (.tmp 1)⟩,
      ⟨(some 9), none, .len (.tmp 8)⟩,
      ⟨(some 10), none, .bin .neq (.tmp 7) (.tmp 9)⟩])
   (.ite (.tmp 10)
     (.seq (.reg [
        ⟨(some 4), none, .mov (.const (.bool false))⟩])
     (.ret))
     (.skip)))
  (.seq (.seq (.reg [
      ⟨(some 5), none, .mov (.const (.int .i64 0))⟩])
   (.block 0
     (.loop
       (.seq (.seq (.reg [
           ⟨(some 11), none, .mov (.tmp 5)⟩,
           ⟨(some 12), none, .mov (.tmp 0)⟩,
           ⟨(some 13), none, .len (.tmp 12)⟩,
           ⟨(some 14), none, .bin .lss (.tmp 11) (.tmp 13)⟩])
        (.ite (.tmp 14)
          (.skip)
          (.exit 0)))
       (.seq (.block 1
          (.seq (.dreg [
             ⟨(some 17), none, .mov (.tmp 0)⟩,
             ⟨(some 18), none, .mov (.tmp 5)⟩,
             ⟨(some 19), none, .iadr 3 none (.tmp 17) (.tmp 18)⟩,
             ⟨(some 20), none, .load (.tmp 19) (some 3)⟩,
             ⟨(some 21), none, .mov (.tmp 1)⟩,
             ⟨(some 22), none, .mov (.tmp 5)⟩,
             ⟨(some 23), none, .iadr 3 none (.tmp 21) (.tmp 22)⟩,
             ⟨(some 24), none, .load (.tmp 23) (some 3)⟩,
             ⟨(some 25), none, .eqv true (.cells [false, false, false]) (.tmp 20) (.tmp 24)⟩] [])
          (.ite (.tmp 25)
            (.seq (.reg [
               ⟨(some 4), none, .mov (.const (.bool false))⟩])
            (.ret))
            (.skip))))
       (.reg [
         ⟨(some 15), none, .mov (.tmp 5)⟩,
         ⟨(some 16), none, .bin .add (.tmp 15) (.const (.int .i64 1))⟩,
         ⟨(some 5), none, .mov (.tmp 16)⟩]))))))
  (.seq (.reg [
     ⟨(some 4), none, .mov (.const (.bool true))⟩])
  (.ret))))⟩
theorem st83 : stF Try.prog [] 83 = some il83 := by kernel_rfl
def tab : Tab := [(19, il19), (36, il36), (67, il67), (37, il37), (73, il73), (94, il94), (74, il74), (95, il95), (96, il96), (40, il40), (75, il75), (97, il97), (68, il68), (24, il24), (70, il70), (92, il92), (29, il29), (25, il25), (28, il28), (44, il44), (81, il81), (82, il82), (83, il83)]
theorem tabOk : TabOk Try.prog [] tab := .cons st19 (.cons st36 (.cons st67 (.cons st37 (.cons st73 (.cons st94 (.cons st74 (.cons st95 (.cons st96 (.cons st40 (.cons st75 (.cons st97 (.cons st68 (.cons st24 (.cons st70 (.cons st92 (.cons st29 (.cons st25 (.cons st28 (.cons st44 (.cons st81 (.cons st82 (.cons st83 (.nil)))))))))))))))))))))))
theorem run : fnG WJ.cEnv tab 10000 20 19 [] [] = some (.bool true, []) := by kernel_rfl
theorem sim : Sim Try.prog 19 [] [] fun v h => v = .bool true ∧ h = [] := fnG_ok (by kernel_rfl) tabOk WJ.cEnv_ok 10000 20 19 [] [] _ _ run
end Go.Proofs.Ytgdojnamjkhknaa.ClDealdocRuns
