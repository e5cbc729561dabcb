/-
  The code that a closed law reaches, as data; that it is that code; its run.
-/
import Derived.Test.YtgdojnamjkhknaaIe
import Derived.Test.YtgdojnamjkhknaaLnB
import Derived.KernelRfl
namespace Go.Proofs.Ytgdojnamjkhknaa.ClTapedocRuns
open Go.Am
set_option linter.all false
set_option maxRecDepth 100000
/-- cascade/cascadelaw14.TapedocRuns -/
def il15 : FnIL := ⟨39, [.tmp 0],
  .seq (.reg [
     ⟨(some 0), none, .mov (.const (.bool false))⟩])
  (.seq (.reg [
     ⟨(some 6), none, .build [(.int .i64 0), (.int .i64 0), (.int .i64 0), (.int .i64 0), (.int .i64 0), (.int .i64 0), (.bool false)] [(0, 1, (.const (.int .i64 1))), (1, 1, (.const (.int .i64 5))), (3, 1, (.const (.int .i64 2))), (6, 1, (.const (.bool true)))]⟩,
     ⟨(some 7), none, .mkrow [(.int .i64 0), (.int .i64 0), (.int .i64 0), (.int .i64 0), (.int .i64 0), (.int .i64 0), (.bool false)] 1 [(0, 7, (.tmp 6))]⟩,
     ⟨(some 1), none, .mov (.tmp 7)⟩])
  (.seq (.reg [
     ⟨(some 8), none, .mov (.tmp 1)⟩,
     ⟨(some 9), none, .call 60 [(.const (.int .i64 3)), (.tmp 8)]⟩,
     ⟨(some 2), none, .mov (.tmp 9)⟩])
  (.seq (.reg [
     ⟨(some 11), none, .mov (.tmp 2)⟩,
     ⟨(some 12), none, .call 61 [(.tmp 11)]⟩,
     ⟨(some 10), none, .mov (.tmp 12)⟩,
     ⟨(some 13), none, .ext 0 (.tmp 10)⟩,
     ⟨(some 14), none, .ext 1 (.tmp 10)⟩,
     ⟨(some 15), none, .ext 2 (.tmp 10)⟩,
     ⟨(some 3), none, .mov (.tmp 13)⟩,
     ⟨(some 4), none, .mov (.tmp 14)⟩,
     ⟨(some 5), none, .mov (.tmp 15)⟩])
  (.seq (.reg [
     ⟨(some 16), none, .mov (.tmp 2)⟩,
     ⟨(some 17), none, .mkrow [(.int .i64 0), (.int .i64 0), (.int .i64 0), (.int .i64 0), (.int .i64 0), (.int .i64 0), (.int .i64 0), (.int .i64 0), (.int .i64 0)] 9 [(0, 1, (.const (.int .i64 3))), (1, 1, (.const (.int .i64 1))), (2, 1, (.const (.int .i64 1))), (3, 1, (.const (.int .i64 5))), (4, 1, (.const (.int .i64 0))), (5, 1, (.const (.int .i64 2))), (6, 1, (.const (.int .i64 0))), (7, 1, (.const (.int .i64 0))), (8, 1, (.const (.int .i64 1)))]⟩,
     ⟨(some 18), none, .call 34 [(.tmp 17)]⟩,
     ⟨(some 19), none, .call 27 [(.tmp 16), (.tmp 18)]⟩,
     ⟨(some 20), none, .mov (.tmp 19)⟩,
     ⟨(some 21), (some (20, true)), .mov (.tmp 3)⟩,
     ⟨(some 22), (some (20, true)), .bin .eql (.tmp 21) (.const (.int .i64 3))⟩,
     ⟨(some 23), none, .pick (.tmp 20) (.tmp 22) (.const (.bool false))⟩,
     ⟨(some 24), none, .mov (.tmp 23)⟩,
     ⟨(some 25), (some (24, true)), .mov (.tmp 4)⟩,
     ⟨(some 26), (some (24, true)), .mov (.tmp 1)⟩,
     ⟨(some 27), (some (24, true)), .call 62 [(.tmp 25), (.tmp 26)]⟩,
     ⟨(some 28), none, .pick (.tmp 24) (.tmp 27) (.const (.bool false))⟩,
     ⟨(some 29), none, .mov (.tmp 28)⟩,
     ⟨(some 30), (some (29, true)), .mov (.tmp 5)⟩,
     ⟨(some 31), (some (29, true)), .bin .eql (.tmp 30) (.const (.int .i64 0))⟩,
     ⟨(some 32), none, .pick (.tmp 29) (.tmp 31) (.const (.bool false))⟩,
     ⟨(some 33), none, .mov (.tmp 32)⟩,
     ⟨(some 34), (some (33, true)), .mov (.tmp 1)⟩,
     ⟨(some 35), (some (33, true)), .call 60 [(.const (.int .i64 0)), (.tmp 34)]⟩,
     ⟨(some 36), (some (33, true)), .len (.tmp 35)⟩,
     ⟨(some 37), (some (33, true)), .bin .eql (.tmp 36) (.const (.int .i64 0))⟩,
     ⟨(some 38), none, .pick (.tmp 33) (.tmp 37) (.const (.bool false))⟩,
     ⟨(some 0), none, .mov (.tmp 38)⟩])
  (.ret)))))⟩
theorem st15 : stF Try.prog [] 15 = some il15 := by kernel_rfl
/-- cascade/tapedoc.Encode -/
def il60 : FnIL := ⟨44, [.tmp 4],
  .seq (.reg [
     ⟨(some 4), none, .mov (.const (.slice none 0 0))⟩])
  (.seq (.seq (.reg [
      ⟨(some 9), none, .mov (.tmp 0)⟩,
      ⟨(some 10), none, .mov (.tmp 1)⟩,
      ⟨(some 11), none, .call 90 [(.tmp 9), (.tmp 10)]⟩,
      ⟨(some 12), none, .un .not (.tmp 11)⟩])
   (.ite (.tmp 12)
     (.seq (.reg [
        ⟨(some 4), none, .mov (.const (.slice none 0 0))⟩])
     (.ret))
     (.skip)))
  (.seq (.reg [
     ⟨(some 13), none, .mov (.tmp 0)⟩,
     ⟨(some 14), none, .mov (.tmp 1)⟩,
     ⟨(some 15), none, .len (.tmp 14)⟩,
     ⟨(some 16), none, .mkrow [(.int .i64 0), (.int .i64 0)] 2 [(0, 1, (.tmp 13)), (1, 1, (.tmp 15))]⟩,
     ⟨(some 5), none, .mov (.tmp 16)⟩])
  (.seq (.seq (.reg [
      ⟨(some 17), none, .mov (.tmp 1)⟩,
      ⟨(some 18), none, .len (.tmp 17)⟩,
      ⟨(some 19), none, .mov (.const (.int .i64 0))⟩])
   (.block 0
     (.loop
       (.seq (.reg [
          ⟨(some 20), none, .bin .lss (.tmp 19) (.tmp 18)⟩])
       (.seq (.ite (.tmp 20)
          (.skip)
          (.exit 0))
       (.seq (.block 1
          (.seq (.reg [
             ⟨(some 21), none, .iadr 7 none (.tmp 17) (.tmp 19)⟩,
             ⟨(some 22), none, .load (.tmp 21) (some 7)⟩,
             ⟨(some 7), none, .alloc [(.int .i64 0), (.int .i64 0), (.int .i64 0), (.int .i64 0), (.int .i64 0), (.int .i64 0), (.bool false)]⟩,
             ⟨none, none, .store (.tmp 7) (.tmp 22) 7⟩])
          (.seq (.reg [
             ⟨(some 8), none, .mov (.const (.int .i64 0))⟩])
          (.seq (.seq (.reg [
              ⟨(some 23), none, .fadr 6 (.tmp 7)⟩,
              ⟨(some 24), none, .load (.tmp 23) none⟩])
           (.ite (.tmp 24)
             (.reg [
               ⟨(some 8), none, .mov (.const (.int .i64 1))⟩])
             (.skip)))
          (.reg [
            ⟨(some 25), none, .mov (.tmp 5)⟩,
            ⟨(some 26), none, .fadr 0 (.tmp 7)⟩,
            ⟨(some 27), none, .load (.tmp 26) none⟩,
            ⟨(some 28), none, .fadr 1 (.tmp 7)⟩,
            ⟨(some 29), none, .load (.tmp 28) none⟩,
            ⟨(some 30), none, .fadr 2 (.tmp 7)⟩,
            ⟨(some 31), none, .load (.tmp 30) none⟩,
            ⟨(some 32), none, .fadr 3 (.tmp 7)⟩,
            ⟨(some 33), none, .load (.tmp 32) none⟩,
            ⟨(some 34), none, .fadr 4 (.tmp 7)⟩,
            ⟨(some 35), none, .load (.tmp 34) none⟩,
            ⟨(some 36), none, .fadr 5 (.tmp 7)⟩,
            ⟨(some 37), none, .load (.tmp 36) none⟩,
            ⟨(some 38), none, .mov (.tmp 8)⟩,
            ⟨(some 39), none, .mkrow [(.int .i64 0), (.int .i64 0), (.int .i64 0), (.int .i64 0), (.int .i64 0), (.int .i64 0), (.int .i64 0)] 7 [(0, 1, (.tmp 27)), (1, 1, (.tmp 29)), (2, 1, (.tmp 31)), (3, 1, (.tmp 33)), (4, 1, (.tmp 35)), (5, 1, (.tmp 37)), (6, 1, (.tmp 38))]⟩,
            ⟨(some 40), none, .append 1 8 (.tmp 25) (.tmp 39)⟩,
            ⟨(some 5), none, .mov (.tmp 40)⟩])))))
       (.reg [
         ⟨(some 41), none, .bin .add (.tmp 19) (.const (.int .i64 1))⟩,
         ⟨(some 19), none, .mov (.tmp 41)⟩])))))))
  (.seq (.reg [
     ⟨(some 42), none, .mov (.tmp 5)⟩,
     ⟨(some 43), none, .call 23 [(.tmp 42)]⟩,
     ⟨(some 4), none, .mov (.tmp 43)⟩])
  (.ret)))))⟩
theorem st60 : stF Try.prog [] 60 = some il60 := by kernel_rfl
/-- cascade/tapedoc.right -/
def il90 : FnIL := ⟨15, [.tmp 4],
  .seq (.reg [
     ⟨(some 4), none, .mov (.const (.bool false))⟩])
  (.seq (.reg [
     ⟨(some 5), none, .mov (.tmp 0)⟩,
     ⟨(some 6), none, .bin .geq (.tmp 5) (.const (.int .i64 1))⟩,
     ⟨(some 7), none, .mov (.tmp 6)⟩,
     ⟨(some 8), (some (7, true)), .mov (.tmp 0)⟩,
     ⟨(some 9), (some (7, true)), .bin .leq (.tmp 8) (.const (.int .i64 600))⟩,
     ⟨(some 10), none, .pick (.tmp 7) (.tmp 9) (.const (.bool false))⟩,
     ⟨(some 11), none, .mov (.tmp 10)⟩,
     ⟨(some 12), (some (11, true)), .mov (.tmp 1)⟩,
     ⟨(some 13), (some (11, true)), .call 64 [(.tmp 12)]⟩,
     ⟨(some 14), none, .pick (.tmp 11) (.tmp 13) (.const (.bool false))⟩,
     ⟨(some 4), none, .mov (.tmp 14)⟩])
  (.ret))⟩
theorem st90 : stF Try.prog [] 90 = some il90 := by kernel_rfl
/-- cascade/tape.Right -/
def il64 : FnIL := ⟨27, [.tmp 2],
  .seq (.reg [
     ⟨(some 2), none, .mov (.const (.bool false))⟩])
  (.seq (.seq (.reg [
      ⟨(some 6), none, .mov (.tmp 0)⟩,
      ⟨(some 7), none, .len (.tmp 6)⟩,
      ⟨(some 8), none, .bin .gtr (.tmp 7) (.const (.int .i64 64))⟩])
   (.ite (.tmp 8)
     (.seq (.reg [
        ⟨(some 2), none, .mov (.const (.bool false))⟩])
     (.ret))
     (.skip)))
  (.seq (.reg [
     ⟨(some 3), none, .mov (.const (.int .i64 0))⟩])
  (.seq (.seq (.reg [
      ⟨(some 9), none, .mov (.tmp 0)⟩,
      ⟨(some 10), none, .len (.tmp 9)⟩,
      ⟨(some 11), none, .mov (.const (.int .i64 0))⟩])
   (.block 0
     (.loop
       (.seq (.reg [
          ⟨(some 12), none, .bin .lss (.tmp 11) (.tmp 10)⟩])
       (.seq (.ite (.tmp 12)
          (.skip)
          (.exit 0))
       (.seq (.block 1
          (.seq (.reg [
             ⟨(some 13), none, .iadr 7 none (.tmp 9) (.tmp 11)⟩,
             ⟨(some 14), none, .load (.tmp 13) (some 7)⟩,
             ⟨(some 5), none, .alloc [(.int .i64 0), (.int .i64 0), (.int .i64 0), (.int .i64 0), (.int .i64 0), (.int .i64 0), (.bool false)]⟩,
             ⟨none, none, .store (.tmp 5) (.tmp 14) 7⟩])
          (.seq (.seq (.reg [
              ⟨(some 15), none, .fadr 0 (.tmp 5)⟩,
              ⟨(some 16), none, .load (.tmp 15) none⟩,
              ⟨(some 17), none, .mov (.tmp 3)⟩,
              ⟨(some 18), none, .bin .leq (.tmp 16) (.tmp 17)⟩,
              ⟨(some 19), none, .mov (.tmp 18)⟩,
              ⟨(some 20), (some (19, false)), .load (.tmp 5) (some 7)⟩,
              ⟨(some 21), (some (19, false)), .call 91 [(.tmp 20)]⟩,
              ⟨(some 22), (some (19, false)), .un .not (.tmp 21)⟩,
              ⟨(some 23), none, .pick (.tmp 19) (.const (.bool true)) (.tmp 22)⟩])
           (.ite (.tmp 23)
             (.seq (.reg [
                ⟨(some 2), none, .mov (.const (.bool false))⟩])
             (.ret))
             (.skip)))
          (.reg [
            ⟨(some 24), none, .fadr 0 (.tmp 5)⟩,
            ⟨(some 25), none, .load (.tmp 24) none⟩,
            ⟨(some 3), none, .mov (.tmp 25)⟩]))))
       (.reg [
         ⟨(some 26), none, .bin .add (.tmp 11) (.const (.int .i64 1))⟩,
         ⟨(some 11), none, .mov (.tmp 26)⟩])))))))
  (.seq (.reg [
     ⟨(some 2), none, .mov (.const (.bool true))⟩])
  (.ret)))))⟩
theorem st64 : stF Try.prog [] 64 = some il64 := by kernel_rfl
/-- cascade/tape.right -/
def il91 : FnIL := ⟨34, [.tmp 2],
  .seq (.reg [
     ⟨(some 1), none, .box (.tmp 0)⟩,
     ⟨(some 2), none, .mov (.const (.bool false))⟩])
  (.seq (.seq (.reg [
      ⟨(some 5), none, .fadr 1 (.tmp 1)⟩,
      ⟨(some 6), none, .load (.tmp 5) none⟩,
      ⟨(some 7), none, .fadr 2 (.tmp 1)⟩,
      ⟨(some 8), none, .load (.tmp 7) none⟩,
      ⟨(some 9), none, .fadr 3 (.tmp 1)⟩,
      ⟨(some 10), none, .load (.tmp 9) none⟩,
      ⟨(some 11), none, .fadr 4 (.tmp 1)⟩,
      ⟨(some 12), none, .load (.tmp 11) none⟩,
      ⟨(some 13), none, .mkrow [(.int .i64 0), (.int .i64 0), (.int .i64 0), (.int .i64 0)] 4 [(0, 1, (.tmp 6)), (1, 1, (.tmp 8)), (2, 1, (.tmp 10)), (3, 1, (.tmp 12))]⟩,
      ⟨(some 14), none, .len (.tmp 13)⟩,
      ⟨(some 15), none, .mov (.const (.int .i64 0))⟩])
   (.block 0
     (.loop
       (.seq (.reg [
          ⟨(some 16), none, .bin .lss (.tmp 15) (.tmp 14)⟩])
       (.seq (.ite (.tmp 16)
          (.skip)
          (.exit 0))
       (.seq (.block 1
          (.seq (.reg [
             ⟨(some 17), none, .iadr 1 none (.tmp 13) (.tmp 15)⟩,
             ⟨(some 18), none, .load (.tmp 17) none⟩,
             ⟨(some 4), none, .mov (.tmp 18)⟩])
          (.seq (.reg [
             ⟨(some 19), none, .mov (.tmp 4)⟩,
             ⟨(some 20), none, .bin .lss (.tmp 19) (.const (.int .i64 0))⟩,
             ⟨(some 21), none, .mov (.tmp 20)⟩,
             ⟨(some 22), (some (21, false)), .mov (.tmp 4)⟩,
             ⟨(some 23), (some (21, false)), .bin .gtr (.tmp 22) (.const (.int .i64 1099511627776))⟩,
             ⟨(some 24), none, .pick (.tmp 21) (.const (.bool true)) (.tmp 23)⟩])
          (.ite (.tmp 24)
            (.seq (.reg [
               ⟨(some 2), none, .mov (.const (.bool false))⟩])
            (.ret))
            (.skip)))))
       (.reg [
         ⟨(some 25), none, .bin .add (.tmp 15) (.const (.int .i64 1))⟩,
         ⟨(some 15), none, .mov (.tmp 25)⟩])))))))
  (.seq (.reg [
     ⟨(some 26), none, .fadr 5 (.tmp 1)⟩,
     ⟨(some 27), none, .load (.tmp 26) none⟩,
     ⟨(some 28), none, .bin .geq (.tmp 27) (.const (.int .i64 0))⟩,
     ⟨(some 29), none, .mov (.tmp 28)⟩,
     ⟨(some 30), (some (29, true)), .fadr 5 (.tmp 1)⟩,
     ⟨(some 31), (some (29, true)), .load (.tmp 30) none⟩,
     ⟨(some 32), (some (29, true)), .bin .leq (.tmp 31) (.const (.int .i64 12))⟩,
     ⟨(some 33), none, .pick (.tmp 29) (.tmp 32) (.const (.bool false))⟩,
     ⟨(some 2), none, .mov (.tmp 33)⟩])
  (.ret)))⟩
theorem st91 : stF Try.prog [] 91 = some il91 := by kernel_rfl
/-- cascade/word.Bytes -/
def il23 : FnIL := ⟨27, [.tmp 2],
  .seq (.reg [
     ⟨(some 2), none, .mov (.const (.slice none 0 0))⟩])
  (.seq (.reg [
     ⟨(some 3), none, .mov (.const (.slice none 0 0))⟩])
  (.seq (.seq (.reg [
      ⟨(some 7), none, .mov (.tmp 0)⟩,
      ⟨(some 8), none, .len (.tmp 7)⟩,
      ⟨(some 9), none, .mov (.const (.int .i64 0))⟩])
   (.block 0
     (.loop
       (.seq (.reg [
          ⟨(some 10), none, .bin .lss (.tmp 9) (.tmp 8)⟩])
       (.seq (.ite (.tmp 10)
          (.skip)
          (.exit 0))
       (.seq (.block 1
          (.seq (.reg [
             ⟨(some 11), none, .iadr 1 none (.tmp 7) (.tmp 9)⟩,
             ⟨(some 12), none, .load (.tmp 11) none⟩,
             ⟨(some 5), none, .mov (.tmp 12)⟩])
          (.seq (.reg [
             ⟨(some 6), none, .mov (.const (.int .i64 7))⟩])
          (.block 2
            (.loop
              (.seq (.seq (.reg [
                  ⟨(some 13), none, .mov (.tmp 6)⟩,
                  ⟨(some 14), none, .bin .geq (.tmp 13) (.const (.int .i64 0))⟩])
               (.ite (.tmp 14)
                 (.skip)
                 (.exit 2)))
              (.seq (.block 3
                 (.reg [
                   ⟨(some 17), none, .mov (.tmp 3)⟩,
                   ⟨(some 18), none, .mov (.tmp 5)⟩,
                   ⟨(some 19), none, .mov (.tmp 6)⟩,
                   ⟨(some 20), none, .bin .mul (.const (.int .i64 8)) (.tmp 19)⟩,
                   ⟨(some 21), none, .bin .shr (.tmp 18) (.tmp 20)⟩,
                   ⟨(some 22), none, .conv .u8 (.tmp 21)⟩,
                   ⟨(some 23), none, .mkrow [(.int .u8 0)] 1 [(0, 1, (.tmp 22))]⟩,
                   ⟨(some 24), none, .append 1 1 (.tmp 17) (.tmp 23)⟩,
                   ⟨(some 3), none, .mov (.tmp 24)⟩]))
              (.reg [
                ⟨(some 15), none, .mov (.tmp 6)⟩,
                ⟨(some 16), none, .bin .sub (.tmp 15) (.const (.int .i64 1))⟩,
                ⟨(some 6), none, .mov (.tmp 16)⟩]))))))))
       (.reg [
         ⟨(some 25), none, .bin .add (.tmp 9) (.const (.int .i64 1))⟩,
         ⟨(some 9), none, .mov (.tmp 25)⟩])))))))
  (.seq (.reg [
     ⟨(some 26), none, .mov (.tmp 3)⟩,
     ⟨(some 2), none, .mov (.tmp 26)⟩])
  (.ret))))⟩
theorem st23 : stF Try.prog [] 23 = some il23 := by kernel_rfl
/-- cascade/tapedoc.Decode -/
def il61 : FnIL := ⟨65, [.tmp 2, .tmp 3, .tmp 4],
  .seq (.reg [
     ⟨(some 2), none, .mov (.const (.int .i64 0))⟩,
     ⟨(some 3), none, .mov (.const (.slice none 0 0))⟩,
     ⟨(some 4), none, .mov (.const (.int .i64 0))⟩])
  (.seq (.reg [
     ⟨(some 14), none, .mov (.tmp 0)⟩,
     ⟨(some 15), none, .call 32 [(.tmp 14)]⟩,
     ⟨(some 13), none, .mov (.tmp 15)⟩,
     ⟨(some 16), none, .ext 0 (.tmp 13)⟩,
     ⟨(some 17), none, .ext 1 (.tmp 13)⟩,
     ⟨(some 5), none, .mov (.tmp 16)⟩,
     ⟨(some 6), none, .mov (.tmp 17)⟩])
  (.seq (.seq (.reg [
      ⟨(some 18), none, .mov (.tmp 6)⟩,
      ⟨(some 19), none, .un .not (.tmp 18)⟩])
   (.ite (.tmp 19)
     (.seq (.reg [
        ⟨(some 2), none, .mov (.const (.int .i64 0))⟩,
        ⟨(some 3), none, .mov (.const (.slice none 0 0))⟩,
        ⟨(some 4), none, .mov (.const (.int .i64 1))⟩])
     (.ret))
     (.skip)))
  (.seq (.reg [
     ⟨(some 20), none, .mov (.tmp 5)⟩,
     ⟨(some 21), none, .call 24 [(.tmp 20)]⟩,
     ⟨(some 7), none, .mov (.tmp 21)⟩])
  (.seq (.reg [
     ⟨(some 22), none, .mov (.tmp 7)⟩,
     ⟨(some 23), none, .call 29 [(.tmp 22)]⟩,
     ⟨(some 8), none, .mov (.tmp 23)⟩])
  (.seq (.reg [
     ⟨(some 9), none, .mov (.const (.slice none 0 0))⟩])
  (.seq (.seq (.reg [
      ⟨(some 24), none, .mov (.tmp 7)⟩,
      ⟨(some 25), none, .call 25 [(.tmp 24), (.const (.int .i64 64))]⟩,
      ⟨(some 26), none, .mov (.const (.int .i64 0))⟩])
   (.block 0
     (.loop
       (.seq (.reg [
          ⟨(some 27), none, .bin .lss (.tmp 26) (.tmp 25)⟩])
       (.seq (.ite (.tmp 27)
          (.skip)
          (.exit 0))
       (.seq (.block 1
          (.seq (.reg [
             ⟨(some 10), none, .alloc [(.int .i64 0), (.int .i64 0), (.int .i64 0), (.int .i64 0), (.int .i64 0), (.int .i64 0), (.bool false)]⟩])
          (.seq (.seq (.reg [
              ⟨(some 28), none, .fadr 0 (.tmp 10)⟩,
              ⟨(some 29), none, .fadr 1 (.tmp 10)⟩,
              ⟨(some 30), none, .fadr 2 (.tmp 10)⟩,
              ⟨(some 31), none, .fadr 3 (.tmp 10)⟩,
              ⟨(some 32), none, .fadr 4 (.tmp 10)⟩,
              ⟨(some 33), none, .fadr 5 (.tmp 10)⟩,
              ⟨(some 34), none, .mkrow [(.pointer none), (.pointer none), (.pointer none), (.pointer none), (.pointer none), (.pointer none)] 6 [(0, 1, (.tmp 28)), (1, 1, (.tmp 29)), (2, 1, (.tmp 30)), (3, 1, (.tmp 31)), (4, 1, (.tmp 32)), (5, 1, (.tmp 33))]⟩,
              ⟨(some 35), none, .len (.tmp 34)⟩,
              ⟨(some 36), none, .mov (.const (.int .i64 0))⟩])
           (.block 2
             (.loop
               (.seq (.reg [
                  ⟨(some 37), none, .bin .lss (.tmp 36) (.tmp 35)⟩])
               (.seq (.ite (.tmp 37)
                  (.skip)
                  (.exit 2))
               (.seq (.block 3
                  (.seq (.reg [
                     ⟨(some 38), none, .iadr 1 none (.tmp 34) (.tmp 36)⟩,
                     ⟨(some 39), none, .load (.tmp 38) none⟩,
                     ⟨(some 12), none, .mov (.tmp 39)⟩])
                  (.reg [
                    ⟨(some 40), none, .mov (.tmp 12)⟩,
                    ⟨(some 41), none, .mov (.tmp 7)⟩,
                    ⟨(some 42), none, .call 29 [(.tmp 41)]⟩,
                    ⟨(some 43), none, .nilck (.tmp 40)⟩,
                    ⟨none, none, .store (.tmp 43) (.tmp 42) 1⟩])))
               (.reg [
                 ⟨(some 44), none, .bin .add (.tmp 36) (.const (.int .i64 1))⟩,
                 ⟨(some 36), none, .mov (.tmp 44)⟩])))))))
          (.seq (.reg [
             ⟨(some 45), none, .mov (.tmp 7)⟩,
             ⟨(some 46), none, .call 25 [(.tmp 45), (.const (.int .i64 1))]⟩,
             ⟨(some 47), none, .bin .eql (.tmp 46) (.const (.int .i64 1))⟩,
             ⟨(some 48), none, .fadr 6 (.tmp 10)⟩,
             ⟨none, none, .store (.tmp 48) (.tmp 47) 1⟩])
          (.reg [
            ⟨(some 49), none, .mov (.tmp 9)⟩,
            ⟨(some 50), none, .load (.tmp 10) (some 7)⟩,
            ⟨(some 51), none, .mkrow [(.int .i64 0), (.int .i64 0), (.int .i64 0), (.int .i64 0), (.int .i64 0), (.int .i64 0), (.bool false)] 1 [(0, 7, (.tmp 50))]⟩,
            ⟨(some 52), none, .append 7 56 (.tmp 49) (.tmp 51)⟩,
            ⟨(some 9), none, .mov (.tmp 52)⟩])))))
       (.reg [
         ⟨(some 53), none, .bin .add (.tmp 26) (.const (.int .i64 1))⟩,
         ⟨(some 26), none, .mov (.tmp 53)⟩])))))))
  (.seq (.block 4
     (.seq (.reg [
        ⟨(some 55), none, .mov (.tmp 7)⟩,
        ⟨(some 56), none, .call 28 [(.tmp 55)]⟩,
        ⟨(some 57), none, .un .not (.tmp 56)⟩,
        ⟨(some 54), none, .mov (.tmp 57)⟩])
     (.ite (.tmp 54)
       (.seq (.reg [
          ⟨(some 2), none, .mov (.const (.int .i64 0))⟩,
          ⟨(some 3), none, .mov (.const (.slice none 0 0))⟩,
          ⟨(some 4), none, .mov (.const (.int .i64 1))⟩])
       (.ret))
       (.seq (.reg [
          ⟨(some 59), none, .mov (.tmp 8)⟩,
          ⟨(some 60), none, .mov (.tmp 9)⟩,
          ⟨(some 61), none, .call 90 [(.tmp 59), (.tmp 60)]⟩,
          ⟨(some 62), none, .un .not (.tmp 61)⟩,
          ⟨(some 58), none, .mov (.tmp 62)⟩])
       (.ite (.tmp 58)
         (.seq (.reg [
            ⟨(some 2), none, .mov (.const (.int .i64 0))⟩,
            ⟨(some 3), none, .mov (.const (.slice none 0 0))⟩,
            ⟨(some 4), none, .mov (.const (.int .i64 3))⟩])
         (.ret))
         (.skip))))))
  (.seq (.reg [
     ⟨(some 63), none, .mov (.tmp 8)⟩,
     ⟨(some 64), none, .mov (.tmp 9)⟩,
     ⟨(some 2), none, .mov (.tmp 63)⟩,
     ⟨(some 3), none, .mov (.tmp 64)⟩,
     ⟨(some 4), none, .mov (.const (.int .i64 0))⟩])
  (.ret)))))))))⟩
theorem st61 : stF Try.prog [] 61 = some il61 := by kernel_rfl
/-- cascade/word.Read -/
def il24 : FnIL := ⟨7, [.tmp 2],
  .seq (.reg [
     ⟨(some 2), none, .mov (.const (.pointer none))⟩])
  (.seq (.reg [
     ⟨(some 3), none, .mov (.tmp 0)⟩,
     ⟨(some 4), none, .call 70 [(.tmp 3)]⟩,
     ⟨(some 5), none, .build [(.slice none 0 0), (.bool false)] [(0, 1, (.tmp 4))]⟩,
     ⟨(some 6), none, .box (.tmp 5)⟩,
     ⟨(some 2), none, .mov (.tmp 6)⟩])
  (.ret))⟩
theorem st24 : stF Try.prog [] 24 = some il24 := by kernel_rfl
/-- slices.Clone[[]int,int] -/
def il70 : FnIL := ⟨8, [.tmp 2],
  .seq (.reg [
     ⟨(some 2), none, .mov (.const (.slice none 0 0))⟩])
  (.seq (.seq (.reg [
      ⟨(some 3), none, .mov (.tmp 0)⟩,
      ⟨(some 4), none, .eqv false .slc (.tmp 3) (.const (.slice none 0 0))⟩])
   (.ite (.tmp 4)
     (.seq (.reg [
        ⟨(some 2), none, .mov (.const (.slice none 0 0))⟩])
     (.ret))
     (.skip)))
  (.seq (.reg [
     ⟨(some 5), none, .mkrow [] 0 []⟩,
     ⟨(some 6), none, .mov (.tmp 0)⟩,
     ⟨(some 7), none, .append 1 8 (.tmp 5) (.tmp 6)⟩,
     ⟨(some 2), none, .mov (.tmp 7)⟩])
  (.ret)))⟩
theorem st70 : stF Try.prog [] 70 = some il70 := by kernel_rfl
/-- (*cascade/word.Reader).Next -/
def il29 : FnIL := ⟨34, [.tmp 2],
  .seq (.reg [
     ⟨(some 2), none, .mov (.const (.int .i64 0))⟩])
  (.seq (.seq (.reg [
      ⟨(some 4), none, .mov (.tmp 0)⟩,
      ⟨(some 5), none, .nilck (.tmp 4)⟩,
      ⟨(some 6), none, .fadr 1 (.tmp 5)⟩,
      ⟨(some 7), none, .load (.tmp 6) none⟩,
      ⟨(some 8), none, .mov (.tmp 7)⟩,
      ⟨(some 9), (some (8, false)), .mov (.tmp 0)⟩,
      ⟨(some 10), (some (8, false)), .nilck (.tmp 9)⟩,
      ⟨(some 11), (some (8, false)), .fadr 0 (.tmp 10)⟩,
      ⟨(some 12), (some (8, false)), .load (.tmp 11) none⟩,
      ⟨(some 13), (some (8, false)), .len (.tmp 12)⟩,
      ⟨(some 14), (some (8, false)), .bin .eql (.tmp 13) (.const (.int .i64 0))⟩,
      ⟨(some 15), none, .pick (.tmp 8) (.const (.bool true)) (.tmp 14)⟩])
   (.ite (.tmp 15)
     (.seq (.reg [
        ⟨(some 16), none, .mov (.tmp 0)⟩,
        ⟨(some 17), none, .nilck (.tmp 16)⟩,
        ⟨(some 18), none, .fadr 1 (.tmp 17)⟩,
        ⟨none, none, .store (.tmp 18) (.const (.bool true)) 1⟩])
     (.seq (.reg [
        ⟨(some 2), none, .mov (.const (.int .i64 0))⟩])
     (.ret)))
     (.skip)))
  (.seq (.reg [
     ⟨(some 19), none, .mov (.tmp 0)⟩,
     ⟨(some 20), none, .nilck (.tmp 19)⟩,
     ⟨(some 21), none, .fadr 0 (.tmp 20)⟩,
     ⟨(some 22), none, .load (.tmp 21) none⟩,
     ⟨(some 23), none, .iadr 1 none (.tmp 22) (.const (.int .i64 0))⟩,
     ⟨(some 24), none, .load (.tmp 23) none⟩,
     ⟨(some 3), none, .mov (.tmp 24)⟩])
  (.seq (.reg [
     ⟨(some 25), none, .mov (.tmp 0)⟩,
     ⟨(some 26), none, .mov (.tmp 0)⟩,
     ⟨(some 27), none, .nilck (.tmp 26)⟩,
     ⟨(some 28), none, .fadr 0 (.tmp 27)⟩,
     ⟨(some 29), none, .load (.tmp 28) none⟩,
     ⟨(some 30), none, .slice 1 (.tmp 29) (some (.const (.int .i64 1))) none none⟩,
     ⟨(some 31), none, .nilck (.tmp 25)⟩,
     ⟨(some 32), none, .fadr 0 (.tmp 31)⟩,
     ⟨none, none, .store (.tmp 32) (.tmp 30) 1⟩])
  (.seq (.reg [
     ⟨(some 33), none, .mov (.tmp 3)⟩,
     ⟨(some 2), none, .mov (.tmp 33)⟩])
  (.ret)))))⟩
theorem st29 : stF Try.prog [] 29 = some il29 := by kernel_rfl
/-- (*cascade/word.Reader).Many -/
def il25 : FnIL := ⟨19, [.tmp 4],
  .seq (.reg [
     ⟨(some 4), none, .mov (.const (.int .i64 0))⟩])
  (.seq (.reg [
     ⟨(some 6), none, .mov (.tmp 0)⟩,
     ⟨(some 7), none, .call 29 [(.tmp 6)]⟩,
     ⟨(some 5), none, .mov (.tmp 7)⟩])
  (.seq (.seq (.reg [
      ⟨(some 8), none, .mov (.tmp 5)⟩,
      ⟨(some 9), none, .bin .lss (.tmp 8) (.const (.int .i64 0))⟩,
      ⟨(some 10), none, .mov (.tmp 9)⟩,
      ⟨(some 11), (some (10, false)), .mov (.tmp 5)⟩,
      ⟨(some 12), (some (10, false)), .mov (.tmp 1)⟩,
      ⟨(some 13), (some (10, false)), .bin .gtr (.tmp 11) (.tmp 12)⟩,
      ⟨(some 14), none, .pick (.tmp 10) (.const (.bool true)) (.tmp 13)⟩])
   (.ite (.tmp 14)
     (.seq (.reg [
        ⟨(some 15), none, .mov (.tmp 0)⟩,
        ⟨(some 16), none, .nilck (.tmp 15)⟩,
        ⟨(some 17), none, .fadr 1 (.tmp 16)⟩,
        ⟨none, none, .store (.tmp 17) (.const (.bool true)) 1⟩])
     (.seq (.reg [
        ⟨(some 4), none, .mov (.const (.int .i64 0))⟩])
     (.ret)))
     (.skip)))
  (.seq (.reg [
     ⟨(some 18), none, .mov (.tmp 5)⟩,
     ⟨(some 4), none, .mov (.tmp 18)⟩])
  (.ret))))⟩
theorem st25 : stF Try.prog [] 25 = some il25 := by kernel_rfl
/-- (*cascade/word.Reader).Done -/
def il28 : FnIL := ⟨16, [.tmp 2],
  .seq (.reg [
     ⟨(some 2), none, .mov (.const (.bool false))⟩])
  (.seq (.reg [
     ⟨(some 3), none, .mov (.tmp 0)⟩,
     ⟨(some 4), none, .nilck (.tmp 3)⟩,
     ⟨(some 5), none, .fadr 1 (.tmp 4)⟩,
     ⟨(some 6), none, .load (.tmp 5) none⟩,
     ⟨(some 7), none, .un .not (.tmp 6)⟩,
     ⟨(some 8), none, .mov (.tmp 7)⟩,
     ⟨(some 9), (some (8, true)), .mov (.tmp 0)⟩,
     ⟨(some 10), (some (8, true)), .nilck (.tmp 9)⟩,
     ⟨(some 11), (some (8, true)), .fadr 0 (.tmp 10)⟩,
     ⟨(some 12), (some (8, true)), .load (.tmp 11) none⟩,
     ⟨(some 13), (some (8, true)), .len (.tmp 12)⟩,
     ⟨(some 14), (some (8, true)), .bin .eql (.tmp 13) (.const (.int .i64 0))⟩,
     ⟨(some 15), none, .pick (.tmp 8) (.tmp 14) (.const (.bool false))⟩,
     ⟨(some 2), none, .mov (.tmp 15)⟩])
  (.ret))⟩
theorem st28 : stF Try.prog [] 28 = some il28 := by kernel_rfl
/-- cascade/cascaderef11.Words -/
def il34 : FnIL := ⟨17, [.tmp 2],
  .seq (.reg [
     ⟨(some 2), none, .mov (.const (.slice none 0 0))⟩])
  (.seq (.reg [
     ⟨(some 3), none, .mov (.const (.slice none 0 0))⟩])
  (.seq (.seq (.reg [
      ⟨(some 6), none, .mov (.tmp 0)⟩,
      ⟨(some 7), none, .len (.tmp 6)⟩,
      ⟨(some 8), none, .mov (.const (.int .i64 0))⟩])
   (.block 0
     (.loop
       (.seq (.reg [
          ⟨(some 9), none, .bin .lss (.tmp 8) (.tmp 7)⟩])
       (.seq (.ite (.tmp 9)
          (.skip)
          (.exit 0))
       (.seq (.block 1
          (.seq (.reg [
             ⟨(some 10), none, .iadr 1 none (.tmp 6) (.tmp 8)⟩,
             ⟨(some 11), none, .load (.tmp 10) none⟩,
             ⟨(some 5), none, .mov (.tmp 11)⟩])
          (.reg [
            ⟨(some 12), none, .mov (.tmp 3)⟩,
            ⟨(some 13), none, .mov (.tmp 5)⟩,
            ⟨(some 14), none, .call 72 [(.tmp 12), (.tmp 13)]⟩,
            ⟨(some 3), none, .mov (.tmp 14)⟩])))
       (.reg [
         ⟨(some 15), none, .bin .add (.tmp 8) (.const (.int .i64 1))⟩,
         ⟨(some 8), none, .mov (.tmp 15)⟩])))))))
  (.seq (.reg [
     ⟨(some 16), none, .mov (.tmp 3)⟩,
     ⟨(some 2), none, .mov (.tmp 16)⟩])
  (.ret))))⟩
theorem st34 : stF Try.prog [] 34 = some il34 := by kernel_rfl
/-- cascade/cascaderef11.Word -/
def il72 : FnIL := ⟨19, [.tmp 4],
  .seq (.reg [
     ⟨(some 4), none, .mov (.const (.slice none 0 0))⟩])
  (.seq (.seq (.reg [
      ⟨(some 5), none, .mov (.const (.int .i64 7))⟩])
   (.block 0
     (.loop
       (.seq (.seq (.reg [
           ⟨(some 6), none, .mov (.tmp 5)⟩,
           ⟨(some 7), none, .bin .geq (.tmp 6) (.const (.int .i64 0))⟩])
        (.ite (.tmp 7)
          (.skip)
          (.exit 0)))
       (.seq (.block 1
          (.reg [
            ⟨(some 10), none, .mov (.tmp 0)⟩,
            ⟨(some 11), none, .mov (.tmp 1)⟩,
            ⟨(some 12), none, .mov (.tmp 5)⟩,
            ⟨(some 13), none, .bin .mul (.const (.int .i64 8)) (.tmp 12)⟩,
            ⟨(some 14), none, .bin .shr (.tmp 11) (.tmp 13)⟩,
            ⟨(some 15), none, .conv .u8 (.tmp 14)⟩,
            ⟨(some 16), none, .mkrow [(.int .u8 0)] 1 [(0, 1, (.tmp 15))]⟩,
            ⟨(some 17), none, .append 1 1 (.tmp 10) (.tmp 16)⟩,
            ⟨(some 0), none, .mov (.tmp 17)⟩]))
       (.reg [
         ⟨(some 8), none, .mov (.tmp 5)⟩,
         ⟨(some 9), none, .bin .sub (.tmp 8) (.const (.int .i64 1))⟩,
         ⟨(some 5), none, .mov (.tmp 9)⟩]))))))
  (.seq (.reg [
     ⟨(some 18), none, .mov (.tmp 0)⟩,
     ⟨(some 4), none, .mov (.tmp 18)⟩])
  (.ret)))⟩
theorem st72 : stF Try.prog [] 72 = some il72 := by kernel_rfl
/-- cascade/cascadebook.Same[byte] -/
def il27 : FnIL := ⟨26, [.tmp 4],
  .seq (.reg [
     ⟨(some 4), none, .mov (.const (.bool false))⟩])
  (.seq (.seq (.reg [
      ⟨(some 6), none, .mov (.tmp 0)⟩,
      ⟨(some 7), none, .len (.tmp 6)⟩,
      ⟨(some 8), none, .mov (.tmp 1)⟩,
      ⟨(some 9), none, .len (.tmp 8)⟩,
      ⟨(some 10), none, .bin .neq (.tmp 7) (.tmp 9)⟩])
   (.ite (.tmp 10)
     (.seq (.reg [
        ⟨(some 4), none, .mov (.const (.bool false))⟩])
     (.ret))
     (.skip)))
  (.seq (.seq (.reg [
      ⟨(some 5), none, .mov (.const (.int .i64 0))⟩])
   (.block 0
     (.loop
       (.seq (.seq (.reg [
           ⟨(some 11), none, .mov (.tmp 5)⟩,
           ⟨(some 12), none, .mov (.tmp 0)⟩,
           ⟨(some 13), none, .len (.tmp 12)⟩,
           ⟨(some 14), none, .bin .lss (.tmp 11) (.tmp 13)⟩])
        (.ite (.tmp 14)
          (.skip)
          (.exit 0)))
       (.seq (.block 1
          (.seq (.dreg [
             ⟨(some 17), none, .mov (.tmp 0)⟩,
             ⟨(some 18), none, .mov (.tmp 5)⟩,
             ⟨(some 19), none, .iadr 1 none (.tmp 17) (.tmp 18)⟩,
             ⟨(some 20), none, .load (.tmp 19) none⟩,
             ⟨(some 21), none, .mov (.tmp 1)⟩,
             ⟨(some 22), none, .mov (.tmp 5)⟩,
             ⟨(some 23), none, .iadr 1 none (.tmp 21) (.tmp 22)⟩,
             ⟨(some 24), none, .load (.tmp 23) none⟩,
             ⟨(some 25), none, .bin .neq (.tmp 20) (.tmp 24)⟩] [])
          (.ite (.tmp 25)
            (.seq (.reg [
               ⟨(some 4), none, .mov (.const (.bool false))⟩])
            (.ret))
            (.skip))))
       (.reg [
         ⟨(some 15), none, .mov (.tmp 5)⟩,
         ⟨(some 16), none, .bin .add (.tmp 15) (.const (.int .i64 1))⟩,
         ⟨(some 5), none, .mov (.tmp 16)⟩]))))))
  (.seq (.reg [
     ⟨(some 4), none, .mov (.const (.bool true))⟩])
  (.ret))))⟩
theorem st27 : stF Try.prog [] 27 = some il27 := by kernel_rfl
/-- cascade/cascadebook.Same[cascade/api.Line] -/
def il62 : FnIL := ⟨26, [.tmp 4],
  .seq (.reg [
     ⟨(some 4), none, .mov (.const (.bool false))⟩])
  (.seq (.seq (.reg [
      ⟨(some 6), none, .mov (.tmp 0)⟩,
      ⟨(some 7), none, .len (.tmp 6)⟩,
      ⟨(some 8), none, .mov (.tmp 1)⟩,
      ⟨(some 9), none, .len (.tmp 8)⟩,
      ⟨(some 10), none, .bin .neq (.tmp 7) (.tmp 9)⟩])
   (.ite (.tmp 10)
     (.seq (.reg [
        ⟨(some 4), none, .mov (.const (.bool false))⟩])
     (.ret))
     (.skip)))
  (.seq (.seq (.reg [
      ⟨(some 5), none, .mov (.const (.int .i64 0))⟩])
   (.block 0
     (.loop
       (.seq (.seq (.reg [
           ⟨(some 11), none, .mov (.tmp 5)⟩,
           ⟨(some 12), none, .mov (.tmp 0)⟩,
           ⟨(some 13), none, .len (.tmp 12)⟩,
           ⟨(some 14), none, .bin .lss (.tmp 11) (.tmp 13)⟩])
        (.ite (.tmp 14)
          (.skip)
          (.exit 0)))
       (.seq (.block 1
          (.seq (.dreg [
             ⟨(some 17), none, .mov (.tmp 0)⟩,
             ⟨(some 18), none, .mov (.tmp 5)⟩,
             ⟨(some 19), none, .iadr 7 none (.tmp 17) (.tmp 18)⟩,
             ⟨(some 20), none, .load (.tmp 19) (some 7)⟩,
             ⟨(some 21), none, .mov (.tmp 1)⟩,
             ⟨(some 22), none, .mov (.tmp 5)⟩,
             ⟨(some 23), none, .iadr 7 none (.tmp 21) (.tmp 22)⟩,
             ⟨(some 24), none, .load (.tmp 23) (some 7)⟩,
             ⟨(some 25), none, .eqv true (.cells [false, false, false, false, false, false, true]) (.tmp 20) (.tmp 24)⟩] [])
          (.ite (.tmp 25)
            (.seq (.reg [
               ⟨(some 4), none, .mov (.const (.bool false))⟩])
            (.ret))
            (.skip))))
       (.reg [
         ⟨(some 15), none, .mov (.tmp 5)⟩,
         ⟨(some 16), none, .bin .add (.tmp 15) (.const (.int .i64 1))⟩,
         ⟨(some 5), none, .mov (.tmp 16)⟩]))))))
  (.seq (.reg [
     ⟨(some 4), none, .mov (.const (.bool true))⟩])
  (.ret))))⟩
theorem st62 : stF Try.prog [] 62 = some il62 := by kernel_rfl
def tab : Tab := [(15, il15), (60, il60), (90, il90), (64, il64), (91, il91), (23, il23), (61, il61), (24, il24), (70, il70), (29, il29), (25, il25), (28, il28), (34, il34), (72, il72), (27, il27), (62, il62)]
theorem tabOk : TabOk Try.prog [] tab := .cons st15 (.cons st60 (.cons st90 (.cons st64 (.cons st91 (.cons st23 (.cons st61 (.cons st24 (.cons st70 (.cons st29 (.cons st25 (.cons st28 (.cons st34 (.cons st72 (.cons st27 (.cons st62 (.nil))))))))))))))))
theorem run : fnG WI.cEnv tab 10000 20 15 [] [] = some (.bool true, []) := by kernel_rfl
theorem sim : Sim Try.prog 15 [] [] fun v h => v = .bool true ∧ h = [] := fnG_ok (by kernel_rfl) tabOk WI.cEnv_ok 10000 20 15 [] [] _ _ run
end Go.Proofs.Ytgdojnamjkhknaa.ClTapedocRuns
