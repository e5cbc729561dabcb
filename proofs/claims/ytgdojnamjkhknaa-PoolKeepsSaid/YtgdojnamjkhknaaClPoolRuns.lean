/-
  The code that a closed law reaches, as data; that it is that code; its run.
-/
import Derived.Test.YtgdojnamjkhknaaProg
import Derived.Test.YtgdojnamjkhknaaLcA
import Derived.KernelRfl
namespace Go.Proofs.Ytgdojnamjkhknaa.ClPoolRuns
open Go.Am
set_option linter.all false
set_option maxRecDepth 100000
abbrev qt : List Nat := []
/-- cascade/cascadelaw9.PoolRuns -/
def il11 : FnIL := ⟨46, [.tmp 0],
  .seq (.reg [
     ⟨(some 0), none, .mov (.const (.bool false))⟩])
  (.seq (.reg [
     ⟨(some 6), none, .build [(.int .i64 0), (.int .i64 0)] [(0, 1, (.const (.int .i64 1))), (1, 1, (.const (.int .i64 100)))]⟩,
     ⟨(some 7), none, .mkrow [(.int .i64 0), (.int .i64 0)] 1 [(0, 2, (.tmp 6))]⟩,
     ⟨(some 8), none, .call 45 [(.tmp 7)]⟩,
     ⟨(some 1), none, .mov (.tmp 8)⟩])
  (.seq (.seq (.reg [
      ⟨(some 9), none, .mov (.tmp 1)⟩,
      ⟨(some 10), none, .eqv false .ptr (.tmp 9) (.const (.pointer none))⟩])
   (.ite (.tmp 10)
     (.seq (.reg [
        ⟨(some 0), none, .mov (.const (.bool false))⟩])
     (.ret))
     (.skip)))
  (.seq (.reg [
     ⟨(some 12), none, .mov (.tmp 1)⟩,
     ⟨(some 13), none, .build [(.int .i64 0), (.int .i64 0), (.int .i64 0), (.int .i64 0), (.int .i64 0), (.int .i64 0), (.bool false)] [(0, 1, (.const (.int .i64 1))), (1, 1, (.const (.int .i64 30))), (4, 1, (.const (.int .i64 20))), (6, 1, (.const (.bool true)))]⟩,
     ⟨(some 14), none, .mkrow [(.int .i64 0), (.int .i64 0), (.int .i64 0), (.int .i64 0), (.int .i64 0), (.int .i64 0), (.bool false)] 1 [(0, 7, (.tmp 13))]⟩,
     ⟨(some 15), none, .call 46 [(.tmp 12), (.tmp 14)]⟩,
     ⟨(some 11), none, .mov (.tmp 15)⟩,
     ⟨(some 16), none, .ext 0 (.tmp 11)⟩,
     ⟨(some 17), none, .ext 1 (.tmp 11)⟩,
     ⟨(some 2), none, .alloc [(.int .i64 0), (.int .i64 0), (.int .i64 0), (.int .i64 0)]⟩,
     ⟨none, none, .store (.tmp 2) (.tmp 16) 4⟩,
     ⟨(some 3), none, .mov (.tmp 17)⟩])
  (.seq (.reg [
     ⟨(some 19), none, .mov (.tmp 1)⟩,
     ⟨(some 20), none, .build [(.int .i64 0), (.int .i64 0), (.int .i64 0), (.int .i64 0), (.int .i64 0), (.int .i64 0), (.bool false)] [(0, 1, (.const (.int .i64 1))), (1, 1, (.const (.int .i64 1)))]⟩,
     ⟨(some 21), none, .mkrow [(.int .i64 0), (.int .i64 0), (.int .i64 0), (.int .i64 0), (.int .i64 0), (.int .i64 0), (.bool false)] 1 [(0, 7, (.tmp 20))]⟩,
     ⟨(some 22), none, .call 46 [(.tmp 19), (.tmp 21)]⟩,
     ⟨(some 18), none, .mov (.tmp 22)⟩,
     ⟨(some 23), none, .ext 0 (.tmp 18)⟩,
     ⟨(some 24), none, .ext 1 (.tmp 18)⟩,
     ⟨(some 4), none, .alloc [(.int .i64 0), (.int .i64 0), (.int .i64 0), (.int .i64 0)]⟩,
     ⟨none, none, .store (.tmp 4) (.tmp 23) 4⟩,
     ⟨(some 5), none, .mov (.tmp 24)⟩])
  (.seq (.reg [
     ⟨(some 25), none, .mov (.tmp 3)⟩,
     ⟨(some 26), none, .bin .eql (.tmp 25) (.const (.int .i64 0))⟩,
     ⟨(some 27), none, .mov (.tmp 26)⟩,
     ⟨(some 28), (some (27, true)), .load (.tmp 2) (some 4)⟩,
     ⟨(some 29), (some (27, true)), .build [(.int .i64 0), (.int .i64 0), (.int .i64 0), (.int .i64 0)] [(0, 1, (.const (.int .i64 30))), (2, 1, (.const (.int .i64 70))), (3, 1, (.const (.int .i64 20)))]⟩,
     ⟨(some 30), (some (27, true)), .eqv false (.cells [false, false, false, false]) (.tmp 28) (.tmp 29)⟩,
     ⟨(some 31), none, .pick (.tmp 27) (.tmp 30) (.const (.bool false))⟩,
     ⟨(some 32), none, .mov (.tmp 31)⟩,
     ⟨(some 33), (some (32, true)), .mov (.tmp 1)⟩,
     ⟨(some 34), (some (32, true)), .call 47 [(.tmp 33)]⟩,
     ⟨(some 35), (some (32, true)), .bin .eql (.tmp 34) (.const (.int .i64 0))⟩,
     ⟨(some 36), none, .pick (.tmp 32) (.tmp 35) (.const (.bool false))⟩,
     ⟨(some 37), none, .mov (.tmp 36)⟩,
     ⟨(some 38), (some (37, true)), .mov (.tmp 1)⟩,
     ⟨(some 39), (some (37, true)), .call 48 [(.tmp 38)]⟩,
     ⟨(some 40), (some (37, true)), .bin .eql (.tmp 39) (.const (.int .i64 50))⟩,
     ⟨(some 41), none, .pick (.tmp 37) (.tmp 40) (.const (.bool false))⟩,
     ⟨(some 42), none, .mov (.tmp 41)⟩,
     ⟨(some 43), (some (42, true)), .mov (.tmp 5)⟩,
     ⟨(some 44), (some (42, true)), .bin .eql (.tmp 43) (.const (.int .i64 3))⟩,
     ⟨(some 45), none, .pick (.tmp 42) (.tmp 44) (.const (.bool false))⟩,
     ⟨(some 0), none, .mov (.tmp 45)⟩])
  (.ret))))))⟩
theorem st11 : stF Try.prog qt 11 = some il11 := by kernel_rfl
/-- cascade/pool.New -/
def il45 : FnIL := ⟨27, [.tmp 2],
  .seq (.reg [
     ⟨(some 2), none, .mov (.const (.pointer none))⟩])
  (.seq (.reg [
     ⟨(some 6), none, .build [(.slice none 0 0)] []⟩,
     ⟨(some 7), none, .box (.tmp 6)⟩,
     ⟨(some 3), none, .mov (.tmp 7)⟩])
  (.seq (.seq (.reg [
      ⟨(some 8), none, .mov (.tmp 0)⟩,
      ⟨(some 9), none, .len (.tmp 8)⟩,
      ⟨(some 10), none, .mov (.const (.int .i64 0))⟩])
   (.block 0
     (.loop
       (.seq (.reg [
          ⟨(some 11), none, .bin .lss (.tmp 10) (.tmp 9)⟩])
       (.seq (.ite (.tmp 11)
          (.skip)
          (.exit 0))
       (.seq (.block 1
          (.seq (.reg [
             ⟨(some 12), none, .iadr 2 none (.tmp 8) (.tmp 10)⟩,
             ⟨(some 13), none, .load (.tmp 12) (some 2)⟩,
             ⟨(some 5), none, .alloc [(.int .i64 0), (.int .i64 0)]⟩,
             ⟨none, none, .store (.tmp 5) (.tmp 13) 2⟩])
          (.dreg [
            ⟨(some 14), none, .mov (.tmp 3)⟩,
            ⟨(some 15), none, .mov (.tmp 3)⟩,
            ⟨(some 16), none, .nilck (.tmp 15)⟩,
            ⟨(some 17), none, .fadr 0 (.tmp 16)⟩,
            ⟨(some 18), none, .load (.tmp 17) none⟩,
            ⟨(some 19), none, .load (.tmp 5) (some 2)⟩,
            ⟨(some 20), none, .build [(.int .i64 0), (.int .i64 0), (.int .i64 0), (.int .i64 0), (.bool false)] [(0, 2, (.tmp 19))]⟩,
            ⟨(some 21), none, .mkrow [(.int .i64 0), (.int .i64 0), (.int .i64 0), (.int .i64 0), (.bool false)] 1 [(0, 5, (.tmp 20))]⟩,
            ⟨(some 22), none, .append 5 40 (.tmp 18) (.tmp 21)⟩,
            ⟨(some 23), none, .nilck (.tmp 14)⟩,
            ⟨(some 24), none, .fadr 0 (.tmp 23)⟩,
            ⟨none, none, .store (.tmp 24) (.tmp 22) 1⟩] [])))
       (.reg [
         ⟨(some 25), none, .bin .add (.tmp 10) (.const (.int .i64 1))⟩,
         ⟨(some 10), none, .mov (.tmp 25)⟩])))))))
  (.seq (.reg [
     ⟨(some 26), none, .mov (.tmp 3)⟩,
     ⟨(some 2), none, .mov (.tmp 26)⟩])
  (.ret))))⟩
theorem st45 : stF Try.prog qt 45 = some il45 := by kernel_rfl
/-- (*cascade/pool.Pool).Apply -/
def il46 : FnIL := ⟨89, [.cell 4 (some 4), .tmp 5],
  .seq (.reg [
     ⟨(some 4), none, .alloc [(.int .i64 0), (.int .i64 0), (.int .i64 0), (.int .i64 0)]⟩,
     ⟨(some 5), none, .mov (.const (.int .i64 0))⟩])
  (.seq (.seq (.reg [
      ⟨(some 12), none, .mov (.tmp 1)⟩,
      ⟨(some 13), none, .call 64 [(.tmp 12)]⟩,
      ⟨(some 14), none, .un .not (.tmp 13)⟩])
   (.ite (.tmp 14)
     (.seq (.reg [
        ⟨(some 15), none, .build [(.int .i64 0), (.int .i64 0), (.int .i64 0), (.int .i64 0)] []⟩,
        ⟨none, none, .store (.tmp 4) (.tmp 15) 4⟩,
        ⟨(some 5), none, .mov (.const (.int .i64 3))⟩])
     (.ret))
     (.skip)))
  (.seq (.reg [
     ⟨(some 16), none, .mov (.tmp 0)⟩,
     ⟨(some 17), none, .call 59 [(.tmp 16)]⟩,
     ⟨(some 6), none, .mov (.tmp 17)⟩])
  (.seq (.reg [
     ⟨(some 7), none, .alloc [(.int .i64 0), (.int .i64 0), (.int .i64 0), (.int .i64 0)]⟩])
  (.seq (.seq (.reg [
      ⟨(some 18), none, .mov (.tmp 1)⟩,
      ⟨(some 19), none, .len (.tmp 18)⟩,
      ⟨(some 20), none, .mov (.const (.int .i64 0))⟩])
   (.block 0
     (.loop
       (.seq (.reg [
          ⟨(some 21), none, .bin .lss (.tmp 20) (.tmp 19)⟩])
       (.seq (.ite (.tmp 21)
          (.skip)
          (.exit 0))
       (.seq (.block 1
          (.seq (.reg [
             ⟨(some 22), none, .iadr 7 none (.tmp 18) (.tmp 20)⟩,
             ⟨(some 23), none, .load (.tmp 22) (some 7)⟩,
             ⟨(some 9), none, .alloc [(.int .i64 0), (.int .i64 0), (.int .i64 0), (.int .i64 0), (.int .i64 0), (.int .i64 0), (.bool false)]⟩,
             ⟨none, none, .store (.tmp 9) (.tmp 23) 7⟩])
          (.seq (.reg [
             ⟨(some 24), none, .mov (.tmp 6)⟩,
             ⟨(some 25), none, .fadr 0 (.tmp 9)⟩,
             ⟨(some 26), none, .load (.tmp 25) none⟩,
             ⟨(some 27), none, .call 84 [(.tmp 24), (.tmp 26)]⟩,
             ⟨(some 10), none, .mov (.tmp 27)⟩])
          (.seq (.seq (.dreg [
              ⟨(some 28), none, .mov (.tmp 10)⟩,
              ⟨(some 29), none, .bin .lss (.tmp 28) (.const (.int .i64 0))⟩,
              ⟨(some 30), none, .mov (.tmp 29)⟩,
              ⟨(some 31), (some (30, false)), .mov (.tmp 6)⟩,
              ⟨(some 32), (some (30, false)), .nilck (.tmp 31)⟩,
              ⟨(some 33), (some (30, false)), .fadr 0 (.tmp 32)⟩,
              ⟨(some 34), (some (30, false)), .load (.tmp 33) none⟩,
              ⟨(some 35), (some (30, false)), .mov (.tmp 10)⟩,
              ⟨(some 36), (some (30, false)), .iadr 5 none (.tmp 34) (.tmp 35)⟩,
              ⟨(some 37), (some (30, false)), .load (.tmp 36) (some 5)⟩,
              ⟨(some 38), (some (30, false)), .load (.tmp 9) (some 7)⟩,
              ⟨(some 39), (some (30, false)), .call 85 [(.tmp 37), (.tmp 38)]⟩,
              ⟨(some 40), (some (30, false)), .un .not (.tmp 39)⟩,
              ⟨(some 41), none, .pick (.tmp 30) (.const (.bool true)) (.tmp 40)⟩] [])
           (.ite (.tmp 41)
             (.seq (.reg [
                ⟨(some 42), none, .build [(.int .i64 0), (.int .i64 0), (.int .i64 0), (.int .i64 0)] []⟩,
                ⟨none, none, .store (.tmp 4) (.tmp 42) 4⟩,
                ⟨(some 5), none, .mov (.const (.int .i64 3))⟩])
             (.ret))
             (.skip)))
          (.seq (.reg [
             ⟨(some 11), none, .alloc [(.int .i64 0), (.int .i64 0), (.int .i64 0), (.int .i64 0)]⟩])
          (.seq (.dreg [
             ⟨(some 44), none, .mov (.tmp 6)⟩,
             ⟨(some 45), none, .nilck (.tmp 44)⟩,
             ⟨(some 46), none, .fadr 0 (.tmp 45)⟩,
             ⟨(some 47), none, .load (.tmp 46) none⟩,
             ⟨(some 48), none, .mov (.tmp 10)⟩,
             ⟨(some 49), none, .mov (.tmp 6)⟩,
             ⟨(some 50), none, .nilck (.tmp 49)⟩,
             ⟨(some 51), none, .fadr 0 (.tmp 50)⟩,
             ⟨(some 52), none, .load (.tmp 51) none⟩,
             ⟨(some 53), none, .mov (.tmp 10)⟩,
             ⟨(some 54), none, .iadr 5 none (.tmp 52) (.tmp 53)⟩,
             ⟨(some 55), none, .load (.tmp 54) (some 5)⟩,
             ⟨(some 56), none, .load (.tmp 9) (some 7)⟩,
             ⟨(some 57), none, .call 86 [(.tmp 55), (.tmp 56)]⟩,
             ⟨(some 43), none, .mov (.tmp 57)⟩,
             ⟨(some 58), none, .ext 0 (.tmp 43)⟩,
             ⟨(some 59), none, .ext 1 (.tmp 43)⟩,
             ⟨(some 60), none, .iadr 5 none (.tmp 47) (.tmp 48)⟩,
             ⟨none, none, .store (.tmp 60) (.tmp 58) 5⟩,
             ⟨none, none, .store (.tmp 11) (.tmp 59) 4⟩] [(3, 13)])
          (.reg [
            ⟨(some 61), none, .fadr 0 (.tmp 7)⟩,
            ⟨(some 62), none, .load (.tmp 61) none⟩,
            ⟨(some 63), none, .fadr 0 (.tmp 11)⟩,
            ⟨(some 64), none, .load (.tmp 63) none⟩,
            ⟨(some 65), none, .bin .add (.tmp 62) (.tmp 64)⟩,
            ⟨(some 66), none, .fadr 1 (.tmp 7)⟩,
            ⟨(some 67), none, .load (.tmp 66) none⟩,
            ⟨(some 68), none, .fadr 1 (.tmp 11)⟩,
            ⟨(some 69), none, .load (.tmp 68) none⟩,
            ⟨(some 70), none, .bin .add (.tmp 67) (.tmp 69)⟩,
            ⟨(some 71), none, .fadr 2 (.tmp 7)⟩,
            ⟨(some 72), none, .load (.tmp 71) none⟩,
            ⟨(some 73), none, .fadr 2 (.tmp 11)⟩,
            ⟨(some 74), none, .load (.tmp 73) none⟩,
            ⟨(some 75), none, .bin .add (.tmp 72) (.tmp 74)⟩,
            ⟨(some 76), none, .fadr 3 (.tmp 7)⟩,
            ⟨(some 77), none, .load (.tmp 76) none⟩,
            ⟨(some 78), none, .fadr 3 (.tmp 11)⟩,
            ⟨(some 79), none, .load (.tmp 78) none⟩,
            ⟨(some 80), none, .bin .add (.tmp 77) (.tmp 79)⟩,
            ⟨(some 81), none, .build [(.int .i64 0), (.int .i64 0), (.int .i64 0), (.int .i64 0)] [(0, 1, (.tmp 65)), (1, 1, (.tmp 70)), (2, 1, (.tmp 75)), (3, 1, (.tmp 80))]⟩,
            ⟨none, none, .store (.tmp 7) (.tmp 81) 4⟩])))))))
       (.reg [
         ⟨(some 82), none, .bin .add (.tmp 20) (.const (.int .i64 1))⟩,
         ⟨(some 20), none, .mov (.tmp 82)⟩])))))))
  (.seq (.reg [
     ⟨(some 83), none, .mov (.tmp 0)⟩,
     ⟨(some 84), none, .mov (.tmp 6)⟩,
     ⟨(some 85), none, .nilck (.tmp 84)⟩,
     ⟨(some 86), none, .load (.tmp 85) (some 1)⟩,
     ⟨(some 87), none, .nilck (.tmp 83)⟩,
     ⟨none, none, .store (.tmp 87) (.tmp 86) 1⟩])
  (.seq (.reg [
     ⟨(some 88), none, .load (.tmp 7) (some 4)⟩,
     ⟨none, none, .store (.tmp 4) (.tmp 88) 4⟩,
     ⟨(some 5), none, .mov (.const (.int .i64 0))⟩])
  (.ret)))))))⟩
theorem st46 : stF Try.prog qt 46 = some il46 := by kernel_rfl
/-- cascade/tape.Right -/
def il64 : FnIL := ⟨27, [.tmp 2],
  .seq (.reg [
     ⟨(some 2), none, .mov (.const (.bool false))⟩])
  (.seq (.seq (.reg [
      ⟨(some 6), none, .mov (.tmp 0)⟩,
      ⟨(some 7), none, .len (.tmp 6)⟩,
      ⟨(some 8), none, .bin .gtr (.tmp 7) (.const (.int .i64 64))⟩])
   (.ite (.tmp 8)
     (.seq (.reg [
        ⟨(some 2), none, .mov (.const (.bool false))⟩])
     (.ret))
     (.skip)))
  (.seq (.reg [
     ⟨(some 3), none, .mov (.const (.int .i64 0))⟩])
  (.seq (.seq (.reg [
      ⟨(some 9), none, .mov (.tmp 0)⟩,
      ⟨(some 10), none, .len (.tmp 9)⟩,
      ⟨(some 11), none, .mov (.const (.int .i64 0))⟩])
   (.block 0
     (.loop
       (.seq (.reg [
          ⟨(some 12), none, .bin .lss (.tmp 11) (.tmp 10)⟩])
       (.seq (.ite (.tmp 12)
          (.skip)
          (.exit 0))
       (.seq (.block 1
          (.seq (.reg [
             ⟨(some 13), none, .iadr 7 none (.tmp 9) (.tmp 11)⟩,
             ⟨(some 14), none, .load (.tmp 13) (some 7)⟩,
             ⟨(some 5), none, .alloc [(.int .i64 0), (.int .i64 0), (.int .i64 0), (.int .i64 0), (.int .i64 0), (.int .i64 0), (.bool false)]⟩,
             ⟨none, none, .store (.tmp 5) (.tmp 14) 7⟩])
          (.seq (.seq (.reg [
              ⟨(some 15), none, .fadr 0 (.tmp 5)⟩,
              ⟨(some 16), none, .load (.tmp 15) none⟩,
              ⟨(some 17), none, .mov (.tmp 3)⟩,
              ⟨(some 18), none, .bin .leq (.tmp 16) (.tmp 17)⟩,
              ⟨(some 19), none, .mov (.tmp 18)⟩,
              ⟨(some 20), (some (19, false)), .load (.tmp 5) (some 7)⟩,
              ⟨(some 21), (some (19, false)), .call 91 [(.tmp 20)]⟩,
              ⟨(some 22), (some (19, false)), .un .not (.tmp 21)⟩,
              ⟨(some 23), none, .pick (.tmp 19) (.const (.bool true)) (.tmp 22)⟩])
           (.ite (.tmp 23)
             (.seq (.reg [
                ⟨(some 2), none, .mov (.const (.bool false))⟩])
             (.ret))
             (.skip)))
          (.reg [
            ⟨(some 24), none, .fadr 0 (.tmp 5)⟩,
            ⟨(some 25), none, .load (.tmp 24) none⟩,
            ⟨(some 3), none, .mov (.tmp 25)⟩]))))
       (.reg [
         ⟨(some 26), none, .bin .add (.tmp 11) (.const (.int .i64 1))⟩,
         ⟨(some 11), none, .mov (.tmp 26)⟩])))))))
  (.seq (.reg [
     ⟨(some 2), none, .mov (.const (.bool true))⟩])
  (.ret)))))⟩
theorem st64 : stF Try.prog qt 64 = some il64 := by kernel_rfl
/-- cascade/tape.right -/
def il91 : FnIL := ⟨34, [.tmp 2],
  .seq (.reg [
     ⟨(some 1), none, .box (.tmp 0)⟩,
     ⟨(some 2), none, .mov (.const (.bool false))⟩])
  (.seq (.seq (.reg [
      ⟨(some 5), none, .fadr 1 (.tmp 1)⟩,
      ⟨(some 6), none, .load (.tmp 5) none⟩,
      ⟨(some 7), none, .fadr 2 (.tmp 1)⟩,
      ⟨(some 8), none, .load (.tmp 7) none⟩,
      ⟨(some 9), none, .fadr 3 (.tmp 1)⟩,
      ⟨(some 10), none, .load (.tmp 9) none⟩,
      ⟨(some 11), none, .fadr 4 (.tmp 1)⟩,
      ⟨(some 12), none, .load (.tmp 11) none⟩,
      ⟨(some 13), none, .mkrow [(.int .i64 0), (.int .i64 0), (.int .i64 0), (.int .i64 0)] 4 [(0, 1, (.tmp 6)), (1, 1, (.tmp 8)), (2, 1, (.tmp 10)), (3, 1, (.tmp 12))]⟩,
      ⟨(some 14), none, .len (.tmp 13)⟩,
      ⟨(some 15), none, .mov (.const (.int .i64 0))⟩])
   (.block 0
     (.loop
       (.seq (.reg [
          ⟨(some 16), none, .bin .lss (.tmp 15) (.tmp 14)⟩])
       (.seq (.ite (.tmp 16)
          (.skip)
          (.exit 0))
       (.seq (.block 1
          (.seq (.reg [
             ⟨(some 17), none, .iadr 1 none (.tmp 13) (.tmp 15)⟩,
             ⟨(some 18), none, .load (.tmp 17) none⟩,
             ⟨(some 4), none, .mov (.tmp 18)⟩])
          (.seq (.reg [
             ⟨(some 19), none, .mov (.tmp 4)⟩,
             ⟨(some 20), none, .bin .lss (.tmp 19) (.const (.int .i64 0))⟩,
             ⟨(some 21), none, .mov (.tmp 20)⟩,
             ⟨(some 22), (some (21, false)), .mov (.tmp 4)⟩,
             ⟨(some 23), (some (21, false)), .bin .gtr (.tmp 22) (.const (.int .i64 1099511627776))⟩,
             ⟨(some 24), none, .pick (.tmp 21) (.const (.bool true)) (.tmp 23)⟩])
          (.ite (.tmp 24)
            (.seq (.reg [
               ⟨(some 2), none, .mov (.const (.bool false))⟩])
            (.ret))
            (.skip)))))
       (.reg [
         ⟨(some 25), none, .bin .add (.tmp 15) (.const (.int .i64 1))⟩,
         ⟨(some 15), none, .mov (.tmp 25)⟩])))))))
  (.seq (.reg [
     ⟨(some 26), none, .fadr 5 (.tmp 1)⟩,
     ⟨(some 27), none, .load (.tmp 26) none⟩,
     ⟨(some 28), none, .bin .geq (.tmp 27) (.const (.int .i64 0))⟩,
     ⟨(some 29), none, .mov (.tmp 28)⟩,
     ⟨(some 30), (some (29, true)), .fadr 5 (.tmp 1)⟩,
     ⟨(some 31), (some (29, true)), .load (.tmp 30) none⟩,
     ⟨(some 32), (some (29, true)), .bin .leq (.tmp 31) (.const (.int .i64 12))⟩,
     ⟨(some 33), none, .pick (.tmp 29) (.tmp 32) (.const (.bool false))⟩,
     ⟨(some 2), none, .mov (.tmp 33)⟩])
  (.ret)))⟩
theorem st91 : stF Try.prog qt 91 = some il91 := by kernel_rfl
/-- (*cascade/pool.Pool).Copy -/
def il59 : FnIL := ⟨10, [.tmp 2],
  .seq (.reg [
     ⟨(some 2), none, .mov (.const (.pointer none))⟩])
  (.seq (.reg [
     ⟨(some 3), none, .mov (.tmp 0)⟩,
     ⟨(some 4), none, .nilck (.tmp 3)⟩,
     ⟨(some 5), none, .fadr 0 (.tmp 4)⟩,
     ⟨(some 6), none, .load (.tmp 5) none⟩,
     ⟨(some 7), none, .call 89 [(.tmp 6)]⟩,
     ⟨(some 8), none, .build [(.slice none 0 0)] [(0, 1, (.tmp 7))]⟩,
     ⟨(some 9), none, .box (.tmp 8)⟩,
     ⟨(some 2), none, .mov (.tmp 9)⟩])
  (.ret))⟩
theorem st59 : stF Try.prog qt 59 = some il59 := by kernel_rfl
/-- slices.Clone[[]cascade/pool.Loan,cascade/pool.Loan] -/
def il89 : FnIL := ⟨8, [.tmp 2],
  .seq (.reg [
     ⟨(some 2), none, .mov (.const (.slice none 0 0))⟩])
  (.seq (.seq (.reg [
      ⟨(some 3), none, .mov (.tmp 0)⟩,
      ⟨(some 4), none, .eqv false .slc (.tmp 3) (.const (.slice none 0 0))⟩])
   (.ite (.tmp 4)
     (.seq (.reg [
        ⟨(some 2), none, .mov (.const (.slice none 0 0))⟩])
     (.ret))
     (.skip)))
  (.seq (.reg [
     ⟨(some 5), none, .mkrow [] 0 []⟩,
     ⟨(some 6), none, .mov (.tmp 0)⟩,
     ⟨(some 7), none, .append 5 40 (.tmp 5) (.tmp 6)⟩,
     ⟨(some 2), none, .mov (.tmp 7)⟩])
  (.ret)))⟩
theorem st89 : stF Try.prog qt 89 = some il89 := by kernel_rfl
/-- (*cascade/pool.Pool).at -/
def il84 : FnIL := ⟨11, [.tmp 4],
  .seq (.reg [
     ⟨(some 3), none, .box (.tmp 1)⟩,
     ⟨(some 4), none, .mov (.const (.int .i64 0))⟩])
  (.seq (.reg [
     ⟨(some 5), none, .mov (.tmp 0)⟩,
     ⟨(some 6), none, .nilck (.tmp 5)⟩,
     ⟨(some 7), none, .fadr 0 (.tmp 6)⟩,
     ⟨(some 8), none, .load (.tmp 7) none⟩,
     ⟨(some 9), none, .mkfun (.func 99) [] [(.tmp 3)]⟩,
     ⟨(some 10), none, .call 98 [(.tmp 8), (.tmp 9)]⟩,
     ⟨(some 4), none, .mov (.tmp 10)⟩])
  (.ret))⟩
theorem st84 : stF Try.prog qt 84 = some il84 := by kernel_rfl
/-- (*cascade/pool.Pool).at$1 -/
def il99 : FnIL := ⟨9, [.tmp 3],
  .seq (.reg [
     ⟨(some 2), none, .box (.tmp 0)⟩,
     ⟨(some 3), none, .mov (.const (.bool false))⟩])
  (.seq (.reg [
     ⟨(some 4), none, .fadr 0 (.tmp 2)⟩,
     ⟨(some 5), none, .fadr 0 (.tmp 4)⟩,
     ⟨(some 6), none, .load (.tmp 5) none⟩,
     ⟨(some 7), none, .load (.tmp 1) none⟩,
     ⟨(some 8), none, .bin .eql (.tmp 6) (.tmp 7)⟩,
     ⟨(some 3), none, .mov (.tmp 8)⟩])
  (.ret))⟩
theorem st99 : stF Try.prog qt 99 = some il99 := by kernel_rfl
/-- slices.IndexFunc[[]cascade/pool.Loan,cascade/pool.Loan] -/
def il98 : FnIL := ⟨19, [.tmp 4],
  .seq (.reg [
     ⟨(some 4), none, .mov (.const (.int .i64 0))⟩])
  (.seq (.seq (.reg [
      ⟨(some 6), none, .mov (.tmp 0)⟩,
      ⟨(some 7), none, .len (.tmp 6)⟩,
      ⟨(some 8), none, .mov (.const (.int .i64 0))⟩])
   (.block 0
     (.loop
       (.seq (.reg [
          ⟨(some 9), none, .bin .lss (.tmp 8) (.tmp 7)⟩])
       (.seq (.ite (.tmp 9)
          (.skip)
          (.exit 0))
       (.seq (.block 1
          (.seq (.reg [
             ⟨(some 10), none, .mov (.tmp 8)⟩,
             ⟨(some 5), none, .mov (.tmp 10)⟩])
          (.seq (.reg [
             ⟨(some 11), none, .mov (.tmp 1)⟩,
             ⟨(some 12), none, .mov (.tmp 0)⟩,
             ⟨(some 13), none, .mov (.tmp 5)⟩,
             ⟨(some 14), none, .iadr 5 none (.tmp 12) (.tmp 13)⟩,
             ⟨(some 15), none, .load (.tmp 14) (some 5)⟩,
             ⟨(some 16), none, .callv (.tmp 11) [(.tmp 15)]⟩])
          (.ite (.tmp 16)
            (.seq (.reg [
               ⟨(some 17), none, .mov (.tmp 5)⟩,
               ⟨(some 4), none, .mov (.tmp 17)⟩])
            (.ret))
            (.skip)))))
       (.reg [
         ⟨(some 18), none, .bin .add (.tmp 8) (.const (.int .i64 1))⟩,
         ⟨(some 8), none, .mov (.tmp 18)⟩])))))))
  (.seq (.reg [
     ⟨(some 4), none, .mov (.const (.int .i64 (-1)))⟩])
  (.ret)))⟩
theorem st98 : stF Try.prog qt 98 = some il98 := by kernel_rfl
/-- (cascade/pool.Loan).may -/
def il85 : FnIL := ⟨65, [.tmp 4],
  .seq (.reg [
     ⟨(some 2), none, .box (.tmp 0)⟩,
     ⟨(some 3), none, .box (.tmp 1)⟩,
     ⟨(some 4), none, .mov (.const (.bool false))⟩])
  (.seq (.seq (.reg [
      ⟨(some 6), none, .fadr 4 (.tmp 2)⟩,
      ⟨(some 7), none, .load (.tmp 6) none⟩])
   (.ite (.tmp 7)
     (.seq (.reg [
        ⟨(some 8), none, .fadr 1 (.tmp 3)⟩,
        ⟨(some 9), none, .load (.tmp 8) none⟩,
        ⟨(some 10), none, .bin .eql (.tmp 9) (.const (.int .i64 0))⟩,
        ⟨(some 11), none, .mov (.tmp 10)⟩,
        ⟨(some 12), (some (11, true)), .fadr 2 (.tmp 3)⟩,
        ⟨(some 13), (some (11, true)), .load (.tmp 12) none⟩,
        ⟨(some 14), (some (11, true)), .bin .eql (.tmp 13) (.const (.int .i64 0))⟩,
        ⟨(some 15), none, .pick (.tmp 11) (.tmp 14) (.const (.bool false))⟩,
        ⟨(some 16), none, .mov (.tmp 15)⟩,
        ⟨(some 17), (some (16, true)), .fadr 3 (.tmp 3)⟩,
        ⟨(some 18), (some (16, true)), .load (.tmp 17) none⟩,
        ⟨(some 19), (some (16, true)), .bin .eql (.tmp 18) (.const (.int .i64 0))⟩,
        ⟨(some 20), none, .pick (.tmp 16) (.tmp 19) (.const (.bool false))⟩,
        ⟨(some 21), none, .mov (.tmp 20)⟩,
        ⟨(some 22), (some (21, true)), .fadr 5 (.tmp 3)⟩,
        ⟨(some 23), (some (21, true)), .load (.tmp 22) none⟩,
        ⟨(some 24), (some (21, true)), .bin .eql (.tmp 23) (.const (.int .i64 0))⟩,
        ⟨(some 25), none, .pick (.tmp 21) (.tmp 24) (.const (.bool false))⟩,
        ⟨(some 26), none, .mov (.tmp 25)⟩,
        ⟨(some 27), (some (26, true)), .fadr 6 (.tmp 3)⟩,
        ⟨(some 28), (some (26, true)), .load (.tmp 27) none⟩,
        ⟨(some 29), (some (26, true)), .un .not (.tmp 28)⟩,
        ⟨(some 30), none, .pick (.tmp 26) (.tmp 29) (.const (.bool false))⟩,
        ⟨(some 31), none, .mov (.tmp 30)⟩,
        ⟨(some 32), (some (31, true)), .fadr 4 (.tmp 3)⟩,
        ⟨(some 33), (some (31, true)), .load (.tmp 32) none⟩,
        ⟨(some 34), (some (31, true)), .fadr 2 (.tmp 2)⟩,
        ⟨(some 35), (some (31, true)), .load (.tmp 34) none⟩,
        ⟨(some 36), (some (31, true)), .bin .leq (.tmp 33) (.tmp 35)⟩,
        ⟨(some 37), none, .pick (.tmp 31) (.tmp 36) (.const (.bool false))⟩,
        ⟨(some 4), none, .mov (.tmp 37)⟩])
     (.ret))
     (.skip)))
  (.seq (.reg [
     ⟨(some 38), none, .fadr 0 (.tmp 2)⟩,
     ⟨(some 39), none, .fadr 1 (.tmp 38)⟩,
     ⟨(some 40), none, .load (.tmp 39) none⟩,
     ⟨(some 41), none, .fadr 1 (.tmp 3)⟩,
     ⟨(some 42), none, .load (.tmp 41) none⟩,
     ⟨(some 43), none, .bin .sub (.tmp 40) (.tmp 42)⟩,
     ⟨(some 44), none, .fadr 2 (.tmp 3)⟩,
     ⟨(some 45), none, .load (.tmp 44) none⟩,
     ⟨(some 46), none, .bin .sub (.tmp 43) (.tmp 45)⟩,
     ⟨(some 5), none, .mov (.tmp 46)⟩])
  (.seq (.seq (.reg [
      ⟨(some 47), none, .mov (.tmp 5)⟩,
      ⟨(some 48), none, .bin .lss (.tmp 47) (.const (.int .i64 0))⟩])
   (.ite (.tmp 48)
     (.seq (.reg [
        ⟨(some 4), none, .mov (.const (.bool false))⟩])
     (.ret))
     (.skip)))
  (.seq (.reg [
     ⟨(some 49), none, .fadr 6 (.tmp 3)⟩,
     ⟨(some 50), none, .load (.tmp 49) none⟩,
     ⟨(some 51), none, .mov (.tmp 50)⟩,
     ⟨(some 52), (some (51, true)), .fadr 4 (.tmp 3)⟩,
     ⟨(some 53), (some (51, true)), .load (.tmp 52) none⟩,
     ⟨(some 54), (some (51, true)), .fadr 2 (.tmp 2)⟩,
     ⟨(some 55), (some (51, true)), .load (.tmp 54) none⟩,
     ⟨(some 56), (some (51, true)), .mov (.tmp 5)⟩,
     ⟨(some 57), (some (51, true)), .bin .add (.tmp 55) (.tmp 56)⟩,
     ⟨(some 58), (some (51, true)), .bin .leq (.tmp 53) (.tmp 57)⟩,
     ⟨(some 59), none, .pick (.tmp 51) (.tmp 58) (.const (.bool false))⟩,
     ⟨(some 60), none, .mov (.tmp 59)⟩,
     ⟨(some 61), (some (60, false)), .fadr 4 (.tmp 3)⟩,
     ⟨(some 62), (some (60, false)), .load (.tmp 61) none⟩,
     ⟨(some 63), (some (60, false)), .bin .eql (.tmp 62) (.const (.int .i64 0))⟩,
     ⟨(some 64), none, .pick (.tmp 60) (.const (.bool true)) (.tmp 63)⟩,
     ⟨(some 4), none, .mov (.tmp 64)⟩])
  (.ret)))))⟩
theorem st85 : stF Try.prog qt 85 = some il85 := by kernel_rfl
/-- (cascade/pool.Loan).done -/
def il86 : FnIL := ⟨61, [.cell 4 (some 5), .cell 5 (some 4)],
  .seq (.reg [
     ⟨(some 2), none, .box (.tmp 0)⟩,
     ⟨(some 3), none, .box (.tmp 1)⟩,
     ⟨(some 4), none, .alloc [(.int .i64 0), (.int .i64 0), (.int .i64 0), (.int .i64 0), (.bool false)]⟩,
     ⟨(some 5), none, .alloc [(.int .i64 0), (.int .i64 0), (.int .i64 0), (.int .i64 0)]⟩])
  (.seq (.reg [
     ⟨(some 7), none, .fadr 1 (.tmp 3)⟩,
     ⟨(some 8), none, .load (.tmp 7) none⟩,
     ⟨(some 9), none, .fadr 2 (.tmp 3)⟩,
     ⟨(some 10), none, .load (.tmp 9) none⟩,
     ⟨(some 11), none, .bin .add (.tmp 8) (.tmp 10)⟩,
     ⟨(some 12), none, .fadr 3 (.tmp 3)⟩,
     ⟨(some 13), none, .load (.tmp 12) none⟩,
     ⟨(some 14), none, .fadr 4 (.tmp 3)⟩,
     ⟨(some 15), none, .load (.tmp 14) none⟩,
     ⟨(some 16), none, .build [(.int .i64 0), (.int .i64 0), (.int .i64 0), (.int .i64 0)] [(0, 1, (.tmp 11)), (1, 1, (.tmp 13)), (3, 1, (.tmp 15))]⟩,
     ⟨(some 6), none, .alloc [(.int .i64 0), (.int .i64 0), (.int .i64 0), (.int .i64 0)]⟩,
     ⟨none, none, .store (.tmp 6) (.tmp 16) 4⟩])
  (.seq (.reg [
     ⟨(some 17), none, .fadr 0 (.tmp 2)⟩,
     ⟨(some 18), none, .fadr 1 (.tmp 17)⟩,
     ⟨(some 19), none, .load (.tmp 18) none⟩,
     ⟨(some 20), none, .fadr 0 (.tmp 6)⟩,
     ⟨(some 21), none, .load (.tmp 20) none⟩,
     ⟨(some 22), none, .bin .sub (.tmp 19) (.tmp 21)⟩,
     ⟨(some 23), none, .fadr 0 (.tmp 2)⟩,
     ⟨(some 24), none, .fadr 1 (.tmp 23)⟩,
     ⟨none, none, .store (.tmp 24) (.tmp 22) 1⟩])
  (.seq (.seq (.reg [
      ⟨(some 25), none, .fadr 6 (.tmp 3)⟩,
      ⟨(some 26), none, .load (.tmp 25) none⟩])
   (.ite (.tmp 26)
     (.seq (.reg [
        ⟨(some 27), none, .fadr 0 (.tmp 2)⟩,
        ⟨(some 28), none, .fadr 1 (.tmp 27)⟩,
        ⟨(some 29), none, .load (.tmp 28) none⟩,
        ⟨(some 30), none, .fadr 2 (.tmp 6)⟩,
        ⟨none, none, .store (.tmp 30) (.tmp 29) 1⟩])
     (.seq (.reg [
        ⟨(some 31), none, .fadr 2 (.tmp 2)⟩,
        ⟨(some 32), none, .load (.tmp 31) none⟩,
        ⟨(some 33), none, .fadr 0 (.tmp 2)⟩,
        ⟨(some 34), none, .fadr 1 (.tmp 33)⟩,
        ⟨(some 35), none, .load (.tmp 34) none⟩,
        ⟨(some 36), none, .bin .add (.tmp 32) (.tmp 35)⟩,
        ⟨(some 37), none, .fadr 2 (.tmp 2)⟩,
        ⟨none, none, .store (.tmp 37) (.tmp 36) 1⟩])
     (.reg [
       ⟨(some 38), none, .fadr 0 (.tmp 2)⟩,
       ⟨(some 39), none, .fadr 1 (.tmp 38)⟩,
       ⟨none, none, .store (.tmp 39) (.const (.int .i64 0)) 1⟩,
       ⟨(some 40), none, .fadr 4 (.tmp 2)⟩,
       ⟨none, none, .store (.tmp 40) (.const (.bool true)) 1⟩])))
     (.skip)))
  (.seq (.reg [
     ⟨(some 41), none, .fadr 2 (.tmp 2)⟩,
     ⟨(some 42), none, .load (.tmp 41) none⟩,
     ⟨(some 43), none, .fadr 4 (.tmp 3)⟩,
     ⟨(some 44), none, .load (.tmp 43) none⟩,
     ⟨(some 45), none, .bin .sub (.tmp 42) (.tmp 44)⟩,
     ⟨(some 46), none, .fadr 2 (.tmp 2)⟩,
     ⟨none, none, .store (.tmp 46) (.tmp 45) 1⟩])
  (.seq (.reg [
     ⟨(some 47), none, .fadr 5 (.tmp 3)⟩,
     ⟨(some 48), none, .load (.tmp 47) none⟩,
     ⟨(some 49), none, .fadr 3 (.tmp 2)⟩,
     ⟨none, none, .store (.tmp 49) (.tmp 48) 1⟩])
  (.seq (.seq (.reg [
      ⟨(some 50), none, .fadr 4 (.tmp 2)⟩,
      ⟨(some 51), none, .load (.tmp 50) none⟩,
      ⟨(some 52), none, .mov (.tmp 51)⟩,
      ⟨(some 53), (some (52, false)), .fadr 0 (.tmp 2)⟩,
      ⟨(some 54), (some (52, false)), .fadr 1 (.tmp 53)⟩,
      ⟨(some 55), (some (52, false)), .load (.tmp 54) none⟩,
      ⟨(some 56), (some (52, false)), .bin .eql (.tmp 55) (.const (.int .i64 0))⟩,
      ⟨(some 57), none, .pick (.tmp 52) (.const (.bool true)) (.tmp 56)⟩])
   (.ite (.tmp 57)
     (.reg [
       ⟨(some 58), none, .fadr 3 (.tmp 2)⟩,
       ⟨none, none, .store (.tmp 58) (.const (.int .i64 0)) 1⟩])
     (.skip)))
  (.seq (.dreg [
     ⟨(some 59), none, .load (.tmp 2) (some 5)⟩,
     ⟨(some 60), none, .load (.tmp 6) (some 4)⟩,
     ⟨none, none, .store (.tmp 4) (.tmp 59) 5⟩,
     ⟨none, none, .store (.tmp 5) (.tmp 60) 4⟩] [(1, 2)])
  (.ret))))))))⟩
theorem st86 : stF Try.prog qt 86 = some il86 := by kernel_rfl
/-- (*cascade/pool.Pool).Balance -/
def il47 : FnIL := ⟨22, [.tmp 2],
  .seq (.reg [
     ⟨(some 2), none, .mov (.const (.int .i64 0))⟩])
  (.seq (.reg [
     ⟨(some 3), none, .mov (.const (.int .i64 0))⟩])
  (.seq (.seq (.reg [
      ⟨(some 6), none, .mov (.tmp 0)⟩,
      ⟨(some 7), none, .nilck (.tmp 6)⟩,
      ⟨(some 8), none, .fadr 0 (.tmp 7)⟩,
      ⟨(some 9), none, .load (.tmp 8) none⟩,
      ⟨(some 10), none, .len (.tmp 9)⟩,
      ⟨(some 11), none, .mov (.const (.int .i64 0))⟩])
   (.block 0
     (.loop
       (.seq (.reg [
          ⟨(some 12), none, .bin .lss (.tmp 11) (.tmp 10)⟩])
       (.seq (.ite (.tmp 12)
          (.skip)
          (.exit 0))
       (.seq (.block 1
          (.seq (.reg [
             ⟨(some 13), none, .iadr 5 none (.tmp 9) (.tmp 11)⟩,
             ⟨(some 14), none, .load (.tmp 13) (some 5)⟩,
             ⟨(some 5), none, .alloc [(.int .i64 0), (.int .i64 0), (.int .i64 0), (.int .i64 0), (.bool false)]⟩,
             ⟨none, none, .store (.tmp 5) (.tmp 14) 5⟩])
          (.reg [
            ⟨(some 15), none, .mov (.tmp 3)⟩,
            ⟨(some 16), none, .fadr 0 (.tmp 5)⟩,
            ⟨(some 17), none, .fadr 1 (.tmp 16)⟩,
            ⟨(some 18), none, .load (.tmp 17) none⟩,
            ⟨(some 19), none, .bin .add (.tmp 15) (.tmp 18)⟩,
            ⟨(some 3), none, .mov (.tmp 19)⟩])))
       (.reg [
         ⟨(some 20), none, .bin .add (.tmp 11) (.const (.int .i64 1))⟩,
         ⟨(some 11), none, .mov (.tmp 20)⟩])))))))
  (.seq (.reg [
     ⟨(some 21), none, .mov (.tmp 3)⟩,
     ⟨(some 2), none, .mov (.tmp 21)⟩])
  (.ret))))⟩
theorem st47 : stF Try.prog qt 47 = some il47 := by kernel_rfl
/-- (*cascade/pool.Pool).Lost -/
def il48 : FnIL := ⟨21, [.tmp 2],
  .seq (.reg [
     ⟨(some 2), none, .mov (.const (.int .i64 0))⟩])
  (.seq (.reg [
     ⟨(some 3), none, .mov (.const (.int .i64 0))⟩])
  (.seq (.seq (.reg [
      ⟨(some 6), none, .mov (.tmp 0)⟩,
      ⟨(some 7), none, .nilck (.tmp 6)⟩,
      ⟨(some 8), none, .fadr 0 (.tmp 7)⟩,
      ⟨(some 9), none, .load (.tmp 8) none⟩,
      ⟨(some 10), none, .len (.tmp 9)⟩,
      ⟨(some 11), none, .mov (.const (.int .i64 0))⟩])
   (.block 0
     (.loop
       (.seq (.reg [
          ⟨(some 12), none, .bin .lss (.tmp 11) (.tmp 10)⟩])
       (.seq (.ite (.tmp 12)
          (.skip)
          (.exit 0))
       (.seq (.block 1
          (.seq (.reg [
             ⟨(some 13), none, .iadr 5 none (.tmp 9) (.tmp 11)⟩,
             ⟨(some 14), none, .load (.tmp 13) (some 5)⟩,
             ⟨(some 5), none, .alloc [(.int .i64 0), (.int .i64 0), (.int .i64 0), (.int .i64 0), (.bool false)]⟩,
             ⟨none, none, .store (.tmp 5) (.tmp 14) 5⟩])
          (.reg [
            ⟨(some 15), none, .mov (.tmp 3)⟩,
            ⟨(some 16), none, .fadr 2 (.tmp 5)⟩,
            ⟨(some 17), none, .load (.tmp 16) none⟩,
            ⟨(some 18), none, .bin .add (.tmp 15) (.tmp 17)⟩,
            ⟨(some 3), none, .mov (.tmp 18)⟩])))
       (.reg [
         ⟨(some 19), none, .bin .add (.tmp 11) (.const (.int .i64 1))⟩,
         ⟨(some 11), none, .mov (.tmp 19)⟩])))))))
  (.seq (.reg [
     ⟨(some 20), none, .mov (.tmp 3)⟩,
     ⟨(some 2), none, .mov (.tmp 20)⟩])
  (.ret))))⟩
theorem st48 : stF Try.prog qt 48 = some il48 := by kernel_rfl
def tab : Tab := [(11, il11), (45, il45), (46, il46), (64, il64), (91, il91), (59, il59), (89, il89), (84, il84), (99, il99), (98, il98), (85, il85), (86, il86), (47, il47), (48, il48)]
theorem tabOk : TabOk Try.prog qt tab := .cons st11 (.cons st45 (.cons st46 (.cons st64 (.cons st91 (.cons st59 (.cons st89 (.cons st84 (.cons st99 (.cons st98 (.cons st85 (.cons st86 (.cons st47 (.cons st48 (.nil))))))))))))))
theorem run : fnF tab qt 10000 20 11 [] [] = some (.bool true, []) := by kernel_rfl
theorem sim : Sim Try.prog 11 [] [] fun v h => v = .bool true ∧ h = [] := fnF_ok (by kernel_rfl) tabOk 10000 20 11 [] [] _ _ run
end Go.Proofs.Ytgdojnamjkhknaa.ClPoolRuns
