/-
  The code that a closed law reaches, as data; that it is that code; its run.
-/
import Derived.Test.YtgdojnamjkhknaaProg
import Derived.Test.YtgdojnamjkhknaaAmC
import Derived.KernelRfl
namespace Go.Proofs.Ytgdojnamjkhknaa.ClDealRuns
open Go.Am
set_option maxRecDepth 100000
abbrev qt : List Nat := []
/-- cascade/cascadelaw11.DealRuns -/
def il7 : FnIL := ⟨35, [.tmp 0],
  .seq (.reg [
     ⟨(some 0), none, .mov (.const (.bool false))⟩])
  (.seq (.reg [
     ⟨(some 3), none, .call 36 []⟩,
     ⟨(some 1), none, .alloc [(.int .i64 0), (.int .i64 0), (.int .i64 0), (.slice none 0 0), (.slice none 0 0), (.int .i64 0), (.int .i64 0), (.int .i64 0), (.int .i64 0), (.int .i64 0), (.int .i64 0), (.int .i64 0), (.int .i64 0), (.int .i64 0), (.int .i64 0), (.slice none 0 0), (.slice none 0 0), (.slice none 0 0)]⟩,
     ⟨none, none, .store (.tmp 1) (.tmp 3) 18⟩])
  (.seq (.reg [
     ⟨(some 4), none, .call 36 []⟩,
     ⟨(some 2), none, .alloc [(.int .i64 0), (.int .i64 0), (.int .i64 0), (.slice none 0 0), (.slice none 0 0), (.int .i64 0), (.int .i64 0), (.int .i64 0), (.int .i64 0), (.int .i64 0), (.int .i64 0), (.int .i64 0), (.int .i64 0), (.int .i64 0), (.int .i64 0), (.slice none 0 0), (.slice none 0 0), (.slice none 0 0)]⟩,
     ⟨none, none, .store (.tmp 2) (.tmp 4) 18⟩])
  (.seq (.reg [
     ⟨(some 5), none, .fadr 4 (.tmp 2)⟩,
     ⟨(some 6), none, .load (.tmp 5) none⟩,
     ⟨(some 7), none, .iadr 3 none (.tmp 6) (.const (.int .i64 0))⟩,
     ⟨(some 8), none, .fadr 1 (.tmp 7)⟩,
     ⟨none, none, .store (.tmp 8) (.const (.int .i64 101)) 1⟩])
  (.seq (.reg [
     ⟨(some 9), none, .load (.tmp 1) (some 18)⟩,
     ⟨(some 10), none, .call 37 [(.tmp 9)]⟩,
     ⟨(some 11), none, .mov (.tmp 10)⟩,
     ⟨(some 12), (some (11, true)), .load (.tmp 2) (some 18)⟩,
     ⟨(some 13), (some (11, true)), .call 37 [(.tmp 12)]⟩,
     ⟨(some 14), (some (11, true)), .un .not (.tmp 13)⟩,
     ⟨(some 15), none, .pick (.tmp 11) (.tmp 14) (.const (.bool false))⟩,
     ⟨(some 16), none, .mov (.tmp 15)⟩,
     ⟨(some 17), (some (16, true)), .load (.tmp 1) (some 18)⟩,
     ⟨(some 18), (some (16, true)), .call 38 [(.tmp 17)]⟩,
     ⟨(some 19), (some (16, true)), .bin .eql (.tmp 18) (.const (.int .i64 100))⟩,
     ⟨(some 20), none, .pick (.tmp 16) (.tmp 19) (.const (.bool false))⟩,
     ⟨(some 21), none, .mov (.tmp 20)⟩,
     ⟨(some 22), (some (21, true)), .load (.tmp 1) (some 18)⟩,
     ⟨(some 23), (some (21, true)), .call 39 [(.tmp 22)]⟩,
     ⟨(some 24), (some (21, true)), .bin .eql (.tmp 23) (.const (.int .i64 100))⟩,
     ⟨(some 25), none, .pick (.tmp 21) (.tmp 24) (.const (.bool false))⟩,
     ⟨(some 26), none, .mov (.tmp 25)⟩,
     ⟨(some 27), (some (26, true)), .build [(.int .i64 0), (.int .i64 0)] [(0, 1, (.const (.int .i64 7)))]⟩,
     ⟨(some 28), (some (26, true)), .mkrow [(.int .i64 0), (.int .i64 0)] 1 [(0, 2, (.tmp 27))]⟩,
     ⟨(some 29), (some (26, true)), .call 40 [(.tmp 28)]⟩,
     ⟨(some 30), none, .pick (.tmp 26) (.tmp 29) (.const (.bool false))⟩,
     ⟨(some 31), none, .mov (.tmp 30)⟩,
     ⟨(some 32), (some (31, true)), .call 40 [(.const (.slice none 0 0))]⟩,
     ⟨(some 33), (some (31, true)), .un .not (.tmp 32)⟩,
     ⟨(some 34), none, .pick (.tmp 31) (.tmp 33) (.const (.bool false))⟩,
     ⟨(some 0), none, .mov (.tmp 34)⟩])
  (.ret)))))⟩
theorem st7 : stF Try.prog qt 7 = some il7 := by kernel_rfl
/-- cascade/cascadekeep.One -/
def il36 : FnIL := ⟨20, [.cell 0 (some 18)],
  .seq (.reg [
     ⟨(some 0), none, .alloc [(.int .i64 0), (.int .i64 0), (.int .i64 0), (.slice none 0 0), (.slice none 0 0), (.int .i64 0), (.int .i64 0), (.int .i64 0), (.int .i64 0), (.int .i64 0), (.int .i64 0), (.int .i64 0), (.int .i64 0), (.int .i64 0), (.int .i64 0), (.slice none 0 0), (.slice none 0 0), (.slice none 0 0)]⟩])
  (.seq (.reg [
     ⟨(some 2), none, .build [(.int .i64 0), (.int .i64 0)] [(0, 1, (.const (.int .i64 3)))]⟩,
     ⟨(some 3), none, .build [(.int .i64 0), (.int .i64 0)] [(0, 1, (.const (.int .i64 7)))]⟩,
     ⟨(some 4), none, .mkrow [(.int .i64 0), (.int .i64 0), (.int .i64 0), (.int .i64 0)] 2 [(0, 2, (.tmp 2)), (2, 2, (.tmp 3))]⟩,
     ⟨(some 1), none, .mov (.tmp 4)⟩])
  (.seq (.reg [
     ⟨(some 5), none, .build [(.int .i64 0), (.int .i64 0)] [(0, 1, (.const (.int .i64 1))), (1, 1, (.const (.int .i64 100)))]⟩,
     ⟨(some 6), none, .mkrow [(.int .i64 0), (.int .i64 0)] 1 [(0, 2, (.tmp 5))]⟩,
     ⟨(some 7), none, .build [(.int .i64 0), (.int .i64 0), (.int .i64 0)] [(1, 1, (.const (.int .i64 100)))]⟩,
     ⟨(some 8), none, .mkrow [(.int .i64 0), (.int .i64 0), (.int .i64 0)] 1 [(0, 3, (.tmp 7))]⟩,
     ⟨(some 9), none, .mkrow [] 0 []⟩,
     ⟨(some 10), none, .mov (.tmp 1)⟩,
     ⟨(some 11), none, .append 2 16 (.tmp 9) (.tmp 10)⟩,
     ⟨(some 12), none, .mkrow [] 0 []⟩,
     ⟨(some 13), none, .mov (.tmp 1)⟩,
     ⟨(some 14), none, .append 2 16 (.tmp 12) (.tmp 13)⟩,
     ⟨(some 15), none, .mkrow [] 0 []⟩,
     ⟨(some 16), none, .mov (.tmp 1)⟩,
     ⟨(some 17), none, .append 2 16 (.tmp 15) (.tmp 16)⟩,
     ⟨(some 18), none, .build [(.slice none 0 0), (.slice none 0 0), (.slice none 0 0)] [(0, 1, (.tmp 11)), (1, 1, (.tmp 14)), (2, 1, (.tmp 17))]⟩,
     ⟨(some 19), none, .build [(.int .i64 0), (.int .i64 0), (.int .i64 0), (.slice none 0 0), (.slice none 0 0), (.int .i64 0), (.int .i64 0), (.int .i64 0), (.int .i64 0), (.int .i64 0), (.int .i64 0), (.int .i64 0), (.int .i64 0), (.int .i64 0), (.int .i64 0), (.slice none 0 0), (.slice none 0 0), (.slice none 0 0)] [(0, 1, (.const (.int .i64 2024))), (1, 1, (.const (.int .i64 1))), (3, 1, (.tmp 6)), (4, 1, (.tmp 8)), (15, 3, (.tmp 18))]⟩,
     ⟨none, none, .store (.tmp 0) (.tmp 19) 18⟩])
  (.ret)))⟩
theorem st36 : stF Try.prog qt 36 = some il36 := by kernel_rfl
/-- cascade/deal.Right -/
def il37 : FnIL := ⟨13, [.tmp 2],
  .seq (.reg [
     ⟨(some 1), none, .box (.tmp 0)⟩,
     ⟨(some 2), none, .mov (.const (.bool false))⟩])
  (.seq (.reg [
     ⟨(some 7), none, .load (.tmp 1) (some 18)⟩,
     ⟨(some 8), none, .call 73 [(.tmp 7)]⟩,
     ⟨(some 6), none, .mov (.tmp 8)⟩,
     ⟨(some 9), none, .ext 0 (.tmp 6)⟩,
     ⟨(some 10), none, .ext 1 (.tmp 6)⟩,
     ⟨(some 11), none, .ext 2 (.tmp 6)⟩,
     ⟨(some 3), none, .mov (.tmp 9)⟩,
     ⟨(some 4), none, .mov (.tmp 10)⟩,
     ⟨(some 5), none, .mov (.tmp 11)⟩])
  (.seq (.reg [
     ⟨(some 12), none, .mov (.tmp 5)⟩,
     ⟨(some 2), none, .mov (.tmp 12)⟩])
  (.ret)))⟩
theorem st37 : stF Try.prog qt 37 = some il37 := by kernel_rfl
/-- cascade/deal.sums -/
def il73 : FnIL := ⟨46, [.tmp 2, .tmp 3, .tmp 4],
  .seq (.reg [
     ⟨(some 1), none, .box (.tmp 0)⟩,
     ⟨(some 2), none, .mov (.const (.int .i64 0))⟩,
     ⟨(some 3), none, .mov (.const (.int .i64 0))⟩,
     ⟨(some 4), none, .mov (.const (.bool false))⟩])
  (.seq (.reg [
     ⟨(some 12), none, .fadr 3 (.tmp 1)⟩,
     ⟨(some 13), none, .load (.tmp 12) none⟩,
     ⟨(some 14), none, .call 94 [(.tmp 13)]⟩,
     ⟨(some 11), none, .mov (.tmp 14)⟩,
     ⟨(some 15), none, .ext 0 (.tmp 11)⟩,
     ⟨(some 16), none, .ext 1 (.tmp 11)⟩,
     ⟨(some 5), none, .mov (.tmp 15)⟩,
     ⟨(some 6), none, .mov (.tmp 16)⟩])
  (.seq (.reg [
     ⟨(some 18), none, .fadr 4 (.tmp 1)⟩,
     ⟨(some 19), none, .load (.tmp 18) none⟩,
     ⟨(some 20), none, .mov (.tmp 5)⟩,
     ⟨(some 21), none, .call 95 [(.tmp 19), (.tmp 20)]⟩,
     ⟨(some 17), none, .mov (.tmp 21)⟩,
     ⟨(some 22), none, .ext 0 (.tmp 17)⟩,
     ⟨(some 23), none, .ext 1 (.tmp 17)⟩,
     ⟨(some 7), none, .mov (.tmp 22)⟩,
     ⟨(some 8), none, .mov (.tmp 23)⟩])
  (.seq (.seq (.reg [
      ⟨(some 24), none, .mov (.tmp 6)⟩,
      ⟨(some 25), none, .un .not (.tmp 24)⟩,
      ⟨(some 26), none, .mov (.tmp 25)⟩,
      ⟨(some 27), (some (26, false)), .mov (.tmp 8)⟩,
      ⟨(some 28), (some (26, false)), .un .not (.tmp 27)⟩,
      ⟨(some 29), none, .pick (.tmp 26) (.const (.bool true)) (.tmp 28)⟩,
      ⟨(some 30), none, .mov (.tmp 29)⟩,
      ⟨(some 31), (some (30, false)), .load (.tmp 1) (some 18)⟩,
      ⟨(some 32), (some (30, false)), .call 96 [(.tmp 31)]⟩,
      ⟨(some 33), (some (30, false)), .un .not (.tmp 32)⟩,
      ⟨(some 34), none, .pick (.tmp 30) (.const (.bool true)) (.tmp 33)⟩])
   (.ite (.tmp 34)
     (.seq (.reg [
        ⟨(some 2), none, .mov (.const (.int .i64 0))⟩,
        ⟨(some 3), none, .mov (.const (.int .i64 0))⟩,
        ⟨(some 4), none, .mov (.const (.bool false))⟩])
     (.ret))
     (.skip)))
  (.seq (.seq (.reg [
      ⟨(some 35), none, .fadr 15 (.tmp 1)⟩,
      ⟨(some 36), none, .load (.tmp 35) (some 3)⟩,
      ⟨(some 37), none, .mov (.const (.int .i64 0))⟩])
   (.block 0
     (.loop
       (.seq (.reg [
          ⟨(some 38), none, .bin .lss (.tmp 37) (.const (.int .i64 3))⟩])
       (.seq (.ite (.tmp 38)
          (.skip)
          (.exit 0))
       (.seq (.block 1
          (.seq (.reg [
             ⟨(some 39), none, .idx 1 3 none (.tmp 36) (.tmp 37)⟩,
             ⟨(some 10), none, .mov (.tmp 39)⟩])
          (.seq (.reg [
             ⟨(some 40), none, .mov (.tmp 10)⟩,
             ⟨(some 41), none, .call 40 [(.tmp 40)]⟩,
             ⟨(some 42), none, .un .not (.tmp 41)⟩])
          (.ite (.tmp 42)
            (.seq (.reg [
               ⟨(some 2), none, .mov (.const (.int .i64 0))⟩,
               ⟨(some 3), none, .mov (.const (.int .i64 0))⟩,
               ⟨(some 4), none, .mov (.const (.bool false))⟩])
            (.ret))
            (.skip)))))
       (.reg [
         ⟨(some 43), none, .bin .add (.tmp 37) (.const (.int .i64 1))⟩,
         ⟨(some 37), none, .mov (.tmp 43)⟩])))))))
  (.seq (.reg [
     ⟨(some 44), none, .mov (.tmp 5)⟩,
     ⟨(some 45), none, .mov (.tmp 7)⟩,
     ⟨(some 2), none, .mov (.tmp 44)⟩,
     ⟨(some 3), none, .mov (.tmp 45)⟩,
     ⟨(some 4), none, .mov (.const (.bool true))⟩])
  (.ret))))))⟩
theorem st73 : stF Try.prog qt 73 = some il73 := by kernel_rfl
/-- cascade/deal.loans -/
def il94 : FnIL := ⟨38, [.tmp 2, .tmp 3],
  .seq (.reg [
     ⟨(some 2), none, .mov (.const (.int .i64 0))⟩,
     ⟨(some 3), none, .mov (.const (.bool false))⟩])
  (.seq (.seq (.reg [
      ⟨(some 8), none, .mov (.tmp 0)⟩,
      ⟨(some 9), none, .len (.tmp 8)⟩,
      ⟨(some 10), none, .call 74 [(.tmp 9), (.const (.int .i64 1)), (.const (.int .i64 64))]⟩,
      ⟨(some 11), none, .un .not (.tmp 10)⟩])
   (.ite (.tmp 11)
     (.seq (.reg [
        ⟨(some 2), none, .mov (.const (.int .i64 0))⟩,
        ⟨(some 3), none, .mov (.const (.bool false))⟩])
     (.ret))
     (.skip)))
  (.seq (.reg [
     ⟨(some 4), none, .mov (.const (.int .i64 0))⟩,
     ⟨(some 5), none, .mov (.const (.int .i64 0))⟩])
  (.seq (.seq (.reg [
      ⟨(some 12), none, .mov (.tmp 0)⟩,
      ⟨(some 13), none, .len (.tmp 12)⟩,
      ⟨(some 14), none, .mov (.const (.int .i64 0))⟩])
   (.block 0
     (.loop
       (.seq (.reg [
          ⟨(some 15), none, .bin .lss (.tmp 14) (.tmp 13)⟩])
       (.seq (.ite (.tmp 15)
          (.skip)
          (.exit 0))
       (.seq (.block 1
          (.seq (.reg [
             ⟨(some 16), none, .iadr 2 none (.tmp 12) (.tmp 14)⟩,
             ⟨(some 17), none, .load (.tmp 16) (some 2)⟩,
             ⟨(some 7), none, .alloc [(.int .i64 0), (.int .i64 0)]⟩,
             ⟨none, none, .store (.tmp 7) (.tmp 17) 2⟩])
          (.seq (.seq (.reg [
              ⟨(some 18), none, .fadr 0 (.tmp 7)⟩,
              ⟨(some 19), none, .load (.tmp 18) none⟩,
              ⟨(some 20), none, .mov (.tmp 4)⟩,
              ⟨(some 21), none, .bin .leq (.tmp 19) (.tmp 20)⟩,
              ⟨(some 22), none, .mov (.tmp 21)⟩,
              ⟨(some 23), (some (22, false)), .fadr 1 (.tmp 7)⟩,
              ⟨(some 24), (some (22, false)), .load (.tmp 23) none⟩,
              ⟨(some 25), (some (22, false)), .mov (.tmp 5)⟩,
              ⟨(some 26), (some (22, false)), .bin .sub (.const (.int .i64 1099511627776)) (.tmp 25)⟩,
              ⟨(some 27), (some (22, false)), .call 74 [(.tmp 24), (.const (.int .i64 0)), (.tmp 26)]⟩,
              ⟨(some 28), (some (22, false)), .un .not (.tmp 27)⟩,
              ⟨(some 29), none, .pick (.tmp 22) (.const (.bool true)) (.tmp 28)⟩])
           (.ite (.tmp 29)
             (.seq (.reg [
                ⟨(some 2), none, .mov (.const (.int .i64 0))⟩,
                ⟨(some 3), none, .mov (.const (.bool false))⟩])
             (.ret))
             (.skip)))
          (.seq (.reg [
             ⟨(some 30), none, .fadr 0 (.tmp 7)⟩,
             ⟨(some 31), none, .load (.tmp 30) none⟩,
             ⟨(some 4), none, .mov (.tmp 31)⟩])
          (.reg [
            ⟨(some 32), none, .mov (.tmp 5)⟩,
            ⟨(some 33), none, .fadr 1 (.tmp 7)⟩,
            ⟨(some 34), none, .load (.tmp 33) none⟩,
            ⟨(some 35), none, .bin .add (.tmp 32) (.tmp 34)⟩,
            ⟨(some 5), none, .mov (.tmp 35)⟩])))))
       (.reg [
         ⟨(some 36), none, .bin .add (.tmp 14) (.const (.int .i64 1))⟩,
         ⟨(some 14), none, .mov (.tmp 36)⟩])))))))
  (.seq (.reg [
     ⟨(some 37), none, .mov (.tmp 5)⟩,
     ⟨(some 2), none, .mov (.tmp 37)⟩,
     ⟨(some 3), none, .mov (.const (.bool true))⟩])
  (.ret)))))⟩
theorem st94 : stF Try.prog qt 94 = some il94 := by kernel_rfl
/-- cascade/deal.within -/
def il74 : FnIL := ⟨15, [.tmp 6],
  .seq (.reg [
     ⟨(some 6), none, .mov (.const (.bool false))⟩])
  (.seq (.reg [
     ⟨(some 7), none, .mov (.tmp 0)⟩,
     ⟨(some 8), none, .mov (.tmp 1)⟩,
     ⟨(some 9), none, .bin .geq (.tmp 7) (.tmp 8)⟩,
     ⟨(some 10), none, .mov (.tmp 9)⟩,
     ⟨(some 11), (some (10, true)), .mov (.tmp 0)⟩,
     ⟨(some 12), (some (10, true)), .mov (.tmp 2)⟩,
     ⟨(some 13), (some (10, true)), .bin .leq (.tmp 11) (.tmp 12)⟩,
     ⟨(some 14), none, .pick (.tmp 10) (.tmp 13) (.const (.bool false))⟩,
     ⟨(some 6), none, .mov (.tmp 14)⟩])
  (.ret))⟩
theorem st74 : stF Try.prog qt 74 = some il74 := by kernel_rfl
/-- cascade/deal.notes -/
def il95 : FnIL := ⟨44, [.tmp 4, .tmp 5],
  .seq (.reg [
     ⟨(some 4), none, .mov (.const (.int .i64 0))⟩,
     ⟨(some 5), none, .mov (.const (.bool false))⟩])
  (.seq (.seq (.reg [
      ⟨(some 9), none, .mov (.tmp 0)⟩,
      ⟨(some 10), none, .len (.tmp 9)⟩,
      ⟨(some 11), none, .call 74 [(.tmp 10), (.const (.int .i64 1)), (.const (.int .i64 8))]⟩,
      ⟨(some 12), none, .un .not (.tmp 11)⟩])
   (.ite (.tmp 12)
     (.seq (.reg [
        ⟨(some 4), none, .mov (.const (.int .i64 0))⟩,
        ⟨(some 5), none, .mov (.const (.bool false))⟩])
     (.ret))
     (.skip)))
  (.seq (.reg [
     ⟨(some 6), none, .mov (.const (.int .i64 0))⟩])
  (.seq (.seq (.reg [
      ⟨(some 13), none, .mov (.tmp 0)⟩,
      ⟨(some 14), none, .len (.tmp 13)⟩,
      ⟨(some 15), none, .mov (.const (.int .i64 0))⟩])
   (.block 0
     (.loop
       (.seq (.reg [
          ⟨(some 16), none, .bin .lss (.tmp 15) (.tmp 14)⟩])
       (.seq (.ite (.tmp 16)
          (.skip)
          (.exit 0))
       (.seq (.block 1
          (.seq (.reg [
             ⟨(some 17), none, .iadr 3 none (.tmp 13) (.tmp 15)⟩,
             ⟨(some 18), none, .load (.tmp 17) (some 3)⟩,
             ⟨(some 8), none, .alloc [(.int .i64 0), (.int .i64 0), (.int .i64 0)]⟩,
             ⟨none, none, .store (.tmp 8) (.tmp 18) 3⟩])
          (.seq (.seq (.reg [
              ⟨(some 19), none, .fadr 0 (.tmp 8)⟩,
              ⟨(some 20), none, .load (.tmp 19) none⟩,
              ⟨(some 21), none, .call 74 [(.tmp 20), (.const (.int .i64 0)), (.const (.int .i64 7))]⟩,
              ⟨(some 22), none, .un .not (.tmp 21)⟩,
              ⟨(some 23), none, .mov (.tmp 22)⟩,
              ⟨(some 24), (some (23, false)), .fadr 1 (.tmp 8)⟩,
              ⟨(some 25), (some (23, false)), .load (.tmp 24) none⟩,
              ⟨(some 26), (some (23, false)), .mov (.tmp 1)⟩,
              ⟨(some 27), (some (23, false)), .mov (.tmp 6)⟩,
              ⟨(some 28), (some (23, false)), .bin .sub (.tmp 26) (.tmp 27)⟩,
              ⟨(some 29), (some (23, false)), .call 74 [(.tmp 25), (.const (.int .i64 1)), (.tmp 28)]⟩,
              ⟨(some 30), (some (23, false)), .un .not (.tmp 29)⟩,
              ⟨(some 31), none, .pick (.tmp 23) (.const (.bool true)) (.tmp 30)⟩,
              ⟨(some 32), none, .mov (.tmp 31)⟩,
              ⟨(some 33), (some (32, false)), .fadr 2 (.tmp 8)⟩,
              ⟨(some 34), (some (32, false)), .load (.tmp 33) none⟩,
              ⟨(some 35), (some (32, false)), .call 74 [(.tmp 34), (.const (.int .i64 0)), (.const (.int .i64 5000))]⟩,
              ⟨(some 36), (some (32, false)), .un .not (.tmp 35)⟩,
              ⟨(some 37), none, .pick (.tmp 32) (.const (.bool true)) (.tmp 36)⟩])
           (.ite (.tmp 37)
             (.seq (.reg [
                ⟨(some 4), none, .mov (.const (.int .i64 0))⟩,
                ⟨(some 5), none, .mov (.const (.bool false))⟩])
             (.ret))
             (.skip)))
          (.reg [
            ⟨(some 38), none, .mov (.tmp 6)⟩,
            ⟨(some 39), none, .fadr 1 (.tmp 8)⟩,
            ⟨(some 40), none, .load (.tmp 39) none⟩,
            ⟨(some 41), none, .bin .add (.tmp 38) (.tmp 40)⟩,
            ⟨(some 6), none, .mov (.tmp 41)⟩]))))
       (.reg [
         ⟨(some 42), none, .bin .add (.tmp 15) (.const (.int .i64 1))⟩,
         ⟨(some 15), none, .mov (.tmp 42)⟩])))))))
  (.seq (.reg [
     ⟨(some 43), none, .mov (.tmp 6)⟩,
     ⟨(some 4), none, .mov (.tmp 43)⟩,
     ⟨(some 5), none, .mov (.const (.bool true))⟩])
  (.ret)))))⟩
theorem st95 : stF Try.prog qt 95 = some il95 := by kernel_rfl
/-- cascade/deal.terms -/
def il96 : FnIL := ⟨68, [.tmp 2],
  .seq (.reg [
     ⟨(some 1), none, .box (.tmp 0)⟩,
     ⟨(some 2), none, .mov (.const (.bool false))⟩])
  (.seq (.seq (.reg [
      ⟨(some 5), none, .fadr 10 (.tmp 1)⟩,
      ⟨(some 6), none, .fadr 0 (.tmp 5)⟩,
      ⟨(some 7), none, .load (.tmp 6) none⟩,
      ⟨(some 8), none, .fadr 10 (.tmp 1)⟩,
      ⟨(some 9), none, .fadr 1 (.tmp 8)⟩,
      ⟨(some 10), none, .load (.tmp 9) none⟩,
      ⟨(some 11), none, .fadr 10 (.tmp 1)⟩,
      ⟨(some 12), none, .fadr 2 (.tmp 11)⟩,
      ⟨(some 13), none, .load (.tmp 12) none⟩,
      ⟨(some 14), none, .fadr 10 (.tmp 1)⟩,
      ⟨(some 15), none, .fadr 3 (.tmp 14)⟩,
      ⟨(some 16), none, .load (.tmp 15) none⟩,
      ⟨(some 17), none, .fadr 10 (.tmp 1)⟩,
      ⟨(some 18), none, .fadr 4 (.tmp 17)⟩,
      ⟨(some 19), none, .load (.tmp 18) none⟩,
      ⟨(some 20), none, .mkrow [(.int .i64 0), (.int .i64 0), (.int .i64 0), (.int .i64 0), (.int .i64 0)] 5 [(0, 1, (.tmp 7)), (1, 1, (.tmp 10)), (2, 1, (.tmp 13)), (3, 1, (.tmp 16)), (4, 1, (.tmp 19))]⟩,
      ⟨(some 21), none, .len (.tmp 20)⟩,
      ⟨(some 22), none, .mov (.const (.int .i64 0))⟩])
   (.block 0
     (.loop
       (.seq (.reg [
          ⟨(some 23), none, .bin .lss (.tmp 22) (.tmp 21)⟩])
       (.seq (.ite (.tmp 23)
          (.skip)
          (.exit 0))
       (.seq (.block 1
          (.seq (.reg [
             ⟨(some 24), none, .iadr 1 none (.tmp 20) (.tmp 22)⟩,
             ⟨(some 25), none, .load (.tmp 24) none⟩,
             ⟨(some 4), none, .mov (.tmp 25)⟩])
          (.seq (.reg [
             ⟨(some 26), none, .mov (.tmp 4)⟩,
             ⟨(some 27), none, .call 74 [(.tmp 26), (.const (.int .i64 0)), (.const (.int .i64 100000))]⟩,
             ⟨(some 28), none, .un .not (.tmp 27)⟩])
          (.ite (.tmp 28)
            (.seq (.reg [
               ⟨(some 2), none, .mov (.const (.bool false))⟩])
            (.ret))
            (.skip)))))
       (.reg [
         ⟨(some 29), none, .bin .add (.tmp 22) (.const (.int .i64 1))⟩,
         ⟨(some 22), none, .mov (.tmp 29)⟩])))))))
  (.seq (.reg [
     ⟨(some 30), none, .fadr 0 (.tmp 1)⟩,
     ⟨(some 31), none, .load (.tmp 30) none⟩,
     ⟨(some 32), none, .call 74 [(.tmp 31), (.const (.int .i64 1)), (.const (.int .i64 9000))]⟩,
     ⟨(some 33), none, .mov (.tmp 32)⟩,
     ⟨(some 34), (some (33, true)), .fadr 1 (.tmp 1)⟩,
     ⟨(some 35), (some (33, true)), .load (.tmp 34) none⟩,
     ⟨(some 36), (some (33, true)), .call 74 [(.tmp 35), (.const (.int .i64 1)), (.const (.int .i64 12))]⟩,
     ⟨(some 37), none, .pick (.tmp 33) (.tmp 36) (.const (.bool false))⟩,
     ⟨(some 38), none, .mov (.tmp 37)⟩,
     ⟨(some 39), (some (38, true)), .fadr 2 (.tmp 1)⟩,
     ⟨(some 40), (some (38, true)), .load (.tmp 39) none⟩,
     ⟨(some 41), (some (38, true)), .call 74 [(.tmp 40), (.const (.int .i64 0)), (.const (.int .i64 2))]⟩,
     ⟨(some 42), none, .pick (.tmp 38) (.tmp 41) (.const (.bool false))⟩,
     ⟨(some 43), none, .mov (.tmp 42)⟩,
     ⟨(some 44), (some (43, true)), .fadr 5 (.tmp 1)⟩,
     ⟨(some 45), (some (43, true)), .load (.tmp 44) none⟩,
     ⟨(some 46), (some (43, true)), .call 74 [(.tmp 45), (.const (.int .i64 0)), (.const (.int .i64 5000))]⟩,
     ⟨(some 47), none, .pick (.tmp 43) (.tmp 46) (.const (.bool false))⟩,
     ⟨(some 48), none, .mov (.tmp 47)⟩,
     ⟨(some 49), (some (48, true)), .fadr 6 (.tmp 1)⟩,
     ⟨(some 50), (some (48, true)), .load (.tmp 49) none⟩,
     ⟨(some 51), (some (48, true)), .call 74 [(.tmp 50), (.const (.int .i64 0)), (.const (.int .i64 1099511627776))]⟩,
     ⟨(some 52), none, .pick (.tmp 48) (.tmp 51) (.const (.bool false))⟩,
     ⟨(some 53), none, .mov (.tmp 52)⟩,
     ⟨(some 54), (some (53, true)), .fadr 7 (.tmp 1)⟩,
     ⟨(some 55), (some (53, true)), .load (.tmp 54) none⟩,
     ⟨(some 56), (some (53, true)), .call 74 [(.tmp 55), (.const (.int .i64 0)), (.const (.int .i64 10000))]⟩,
     ⟨(some 57), none, .pick (.tmp 53) (.tmp 56) (.const (.bool false))⟩,
     ⟨(some 58), none, .mov (.tmp 57)⟩,
     ⟨(some 59), (some (58, true)), .fadr 8 (.tmp 1)⟩,
     ⟨(some 60), (some (58, true)), .load (.tmp 59) none⟩,
     ⟨(some 61), (some (58, true)), .call 74 [(.tmp 60), (.const (.int .i64 0)), (.const (.int .i64 1099511627776))]⟩,
     ⟨(some 62), none, .pick (.tmp 58) (.tmp 61) (.const (.bool false))⟩,
     ⟨(some 63), none, .mov (.tmp 62)⟩,
     ⟨(some 64), (some (63, true)), .fadr 9 (.tmp 1)⟩,
     ⟨(some 65), (some (63, true)), .load (.tmp 64) none⟩,
     ⟨(some 66), (some (63, true)), .call 74 [(.tmp 65), (.const (.int .i64 0)), (.const (.int .i64 600))]⟩,
     ⟨(some 67), none, .pick (.tmp 63) (.tmp 66) (.const (.bool false))⟩,
     ⟨(some 2), none, .mov (.tmp 67)⟩])
  (.ret)))⟩
theorem st96 : stF Try.prog qt 96 = some il96 := by kernel_rfl
/-- cascade/deal.Steps -/
def il40 : FnIL := ⟨39, [.tmp 2],
  .seq (.reg [
     ⟨(some 2), none, .mov (.const (.bool false))⟩])
  (.seq (.seq (.reg [
      ⟨(some 6), none, .mov (.tmp 0)⟩,
      ⟨(some 7), none, .len (.tmp 6)⟩,
      ⟨(some 8), none, .call 74 [(.tmp 7), (.const (.int .i64 1)), (.const (.int .i64 16))]⟩,
      ⟨(some 9), none, .un .not (.tmp 8)⟩])
   (.ite (.tmp 9)
     (.seq (.reg [
        ⟨(some 2), none, .mov (.const (.bool false))⟩])
     (.ret))
     (.skip)))
  (.seq (.seq (.reg [
      ⟨(some 10), none, .mov (.tmp 0)⟩,
      ⟨(some 11), none, .len (.tmp 10)⟩,
      ⟨(some 12), none, .mov (.const (.int .i64 0))⟩])
   (.block 0
     (.loop
       (.seq (.reg [
          ⟨(some 13), none, .bin .lss (.tmp 12) (.tmp 11)⟩])
       (.seq (.ite (.tmp 13)
          (.skip)
          (.exit 0))
       (.seq (.block 1
          (.seq (.reg [
             ⟨(some 14), none, .mov (.tmp 12)⟩,
             ⟨(some 15), none, .iadr 2 none (.tmp 10) (.tmp 12)⟩,
             ⟨(some 16), none, .load (.tmp 15) (some 2)⟩,
             ⟨(some 4), none, .alloc [(.int .i64 0), (.int .i64 0)]⟩,
             ⟨(some 3), none, .mov (.tmp 14)⟩,
             ⟨none, none, .store (.tmp 4) (.tmp 16) 2⟩])
          (.seq (.reg [
             ⟨(some 5), none, .mov (.const (.int .i64 0))⟩])
          (.seq (.seq (.reg [
              ⟨(some 17), none, .fadr 0 (.tmp 4)⟩,
              ⟨(some 18), none, .load (.tmp 17) none⟩,
              ⟨(some 19), none, .bin .eql (.tmp 18) (.const (.int .i64 3))⟩])
           (.ite (.tmp 19)
             (.reg [
               ⟨(some 5), none, .mov (.const (.int .i64 7))⟩])
             (.skip)))
          (.seq (.dreg [
             ⟨(some 20), none, .fadr 0 (.tmp 4)⟩,
             ⟨(some 21), none, .load (.tmp 20) none⟩,
             ⟨(some 22), none, .call 74 [(.tmp 21), (.const (.int .i64 1)), (.const (.int .i64 7))]⟩,
             ⟨(some 23), none, .un .not (.tmp 22)⟩,
             ⟨(some 24), none, .mov (.tmp 23)⟩,
             ⟨(some 25), (some (24, false)), .fadr 1 (.tmp 4)⟩,
             ⟨(some 26), (some (24, false)), .load (.tmp 25) none⟩,
             ⟨(some 27), (some (24, false)), .mov (.tmp 5)⟩,
             ⟨(some 28), (some (24, false)), .call 74 [(.tmp 26), (.const (.int .i64 0)), (.tmp 27)]⟩,
             ⟨(some 29), (some (24, false)), .un .not (.tmp 28)⟩,
             ⟨(some 30), none, .pick (.tmp 24) (.const (.bool true)) (.tmp 29)⟩,
             ⟨(some 31), none, .mov (.tmp 30)⟩,
             ⟨(some 32), (some (31, false)), .mov (.tmp 0)⟩,
             ⟨(some 33), (some (31, false)), .mov (.tmp 3)⟩,
             ⟨(some 34), (some (31, false)), .slice 2 (.tmp 32) none (some (.tmp 33)) none⟩,
             ⟨(some 35), (some (31, false)), .load (.tmp 4) (some 2)⟩,
             ⟨(some 36), (some (31, false)), .call 75 [(.tmp 34), (.tmp 35)]⟩,
             ⟨(some 37), none, .pick (.tmp 31) (.const (.bool true)) (.tmp 36)⟩] [])
          (.ite (.tmp 37)
            (.seq (.reg [
               ⟨(some 2), none, .mov (.const (.bool false))⟩])
            (.ret))
            (.skip)))))))
       (.reg [
         ⟨(some 38), none, .bin .add (.tmp 12) (.const (.int .i64 1))⟩,
         ⟨(some 12), none, .mov (.tmp 38)⟩])))))))
  (.seq (.reg [
     ⟨(some 2), none, .mov (.const (.bool true))⟩])
  (.ret))))⟩
theorem st40 : stF Try.prog qt 40 = some il40 := by kernel_rfl
/-- slices.Contains[[]cascade/api.Step,cascade/api.Step] -/
def il75 : FnIL := ⟨9, [.tmp 4],
  .seq (.reg [
     ⟨(some 3), none, .box (.tmp 1)⟩,
     ⟨(some 4), none, .mov (.const (.bool false))⟩])
  (.seq (.reg [
     ⟨(some 5), none, .mov (.tmp 0)⟩,
     ⟨(some 6), none, .load (.tmp 3) (some 2)⟩,
     ⟨(some 7), none, .call 97 [(.tmp 5), (.tmp 6)]⟩,
     ⟨(some 8), none, .bin .geq (.tmp 7) (.const (.int .i64 0))⟩,
     ⟨(some 4), none, .mov (.tmp 8)⟩])
  (.ret))⟩
theorem st75 : stF Try.prog qt 75 = some il75 := by kernel_rfl
/-- slices.Index[[]cascade/api.Step,cascade/api.Step] -/
def il97 : FnIL := ⟨19, [.tmp 4],
  .seq (.reg [
     ⟨(some 3), none, .box (.tmp 1)⟩,
     ⟨(some 4), none, .mov (.const (.int .i64 0))⟩])
  (.seq (.seq (.reg [
      ⟨(some 6), none, .mov (.tmp 0)⟩,
      ⟨(some 7), none, .len (.tmp 6)⟩,
      ⟨(some 8), none, .mov (.const (.int .i64 0))⟩])
   (.block 0
     (.loop
       (.seq (.reg [
          ⟨(some 9), none, .bin .lss (.tmp 8) (.tmp 7)⟩])
       (.seq (.ite (.tmp 9)
          (.skip)
          (.exit 0))
       (.seq (.block 1
          (.seq (.reg [
             ⟨(some 10), none, .mov (.tmp 8)⟩,
             ⟨(some 5), none, .mov (.tmp 10)⟩])
          (.seq (.dreg [
             ⟨(some 11), none, .load (.tmp 3) (some 2)⟩,
             ⟨(some 12), none, .mov (.tmp 0)⟩,
             ⟨(some 13), none, .mov (.tmp 5)⟩,
             ⟨(some 14), none, .iadr 2 none (.tmp 12) (.tmp 13)⟩,
             ⟨(some 15), none, .load (.tmp 14) (some 2)⟩,
             ⟨(some 16), none, .eqv false (.cells [false, false]) (.tmp 11) (.tmp 15)⟩] [])
          (.ite (.tmp 16)
            (.seq (.reg [
               ⟨(some 17), none, .mov (.tmp 5)⟩,
               ⟨(some 4), none, .mov (.tmp 17)⟩])
            (.ret))
            (.skip)))))
       (.reg [
         ⟨(some 18), none, .bin .add (.tmp 8) (.const (.int .i64 1))⟩,
         ⟨(some 8), none, .mov (.tmp 18)⟩])))))))
  (.seq (.reg [
     ⟨(some 4), none, .mov (.const (.int .i64 (-1)))⟩])
  (.ret)))⟩
theorem st97 : stF Try.prog qt 97 = some il97 := by kernel_rfl
/-- cascade/deal.Pool -/
def il38 : FnIL := ⟨13, [.tmp 2],
  .seq (.reg [
     ⟨(some 1), none, .box (.tmp 0)⟩,
     ⟨(some 2), none, .mov (.const (.int .i64 0))⟩])
  (.seq (.reg [
     ⟨(some 7), none, .load (.tmp 1) (some 18)⟩,
     ⟨(some 8), none, .call 73 [(.tmp 7)]⟩,
     ⟨(some 6), none, .mov (.tmp 8)⟩,
     ⟨(some 9), none, .ext 0 (.tmp 6)⟩,
     ⟨(some 10), none, .ext 1 (.tmp 6)⟩,
     ⟨(some 11), none, .ext 2 (.tmp 6)⟩,
     ⟨(some 3), none, .mov (.tmp 9)⟩,
     ⟨(some 4), none, .mov (.tmp 10)⟩,
     ⟨(some 5), none, .mov (.tmp 11)⟩])
  (.seq (.reg [
     ⟨(some 12), none, .mov (.tmp 3)⟩,
     ⟨(some 2), none, .mov (.tmp 12)⟩])
  (.ret)))⟩
theorem st38 : stF Try.prog qt 38 = some il38 := by kernel_rfl
/-- cascade/deal.Notes -/
def il39 : FnIL := ⟨13, [.tmp 2],
  .seq (.reg [
     ⟨(some 1), none, .box (.tmp 0)⟩,
     ⟨(some 2), none, .mov (.const (.int .i64 0))⟩])
  (.seq (.reg [
     ⟨(some 7), none, .load (.tmp 1) (some 18)⟩,
     ⟨(some 8), none, .call 73 [(.tmp 7)]⟩,
     ⟨(some 6), none, .mov (.tmp 8)⟩,
     ⟨(some 9), none, .ext 0 (.tmp 6)⟩,
     ⟨(some 10), none, .ext 1 (.tmp 6)⟩,
     ⟨(some 11), none, .ext 2 (.tmp 6)⟩,
     ⟨(some 3), none, .mov (.tmp 9)⟩,
     ⟨(some 4), none, .mov (.tmp 10)⟩,
     ⟨(some 5), none, .mov (.tmp 11)⟩])
  (.seq (.reg [
     ⟨(some 12), none, .mov (.tmp 4)⟩,
     ⟨(some 2), none, .mov (.tmp 12)⟩])
  (.ret)))⟩
theorem st39 : stF Try.prog qt 39 = some il39 := by kernel_rfl
def tab : Tab := [(7, il7), (36, il36), (37, il37), (73, il73), (94, il94), (74, il74), (95, il95), (96, il96), (40, il40), (75, il75), (97, il97), (38, il38), (39, il39)]
theorem tabOk : TabOk Try.prog qt tab := .cons st7 (.cons st36 (.cons st37 (.cons st73 (.cons st94 (.cons st74 (.cons st95 (.cons st96 (.cons st40 (.cons st75 (.cons st97 (.cons st38 (.cons st39 (.nil)))))))))))))
theorem run : fnF tab qt 10000 20 7 [] [] = some (.bool true, []) := by kernel_rfl
theorem sim : Sim Try.prog 7 [] [] fun v h => v = .bool true ∧ h = [] := fnF_ok (by kernel_rfl) tabOk 10000 20 7 [] [] _ _ run
end Go.Proofs.Ytgdojnamjkhknaa.ClDealRuns
