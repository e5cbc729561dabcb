/-
  The code that a closed law reaches, as data; that it is that code; its run.
-/
import Derived.Test.YtgdojnamjkhknaaProg
import Derived.Test.YtgdojnamjkhknaaAmC
import Derived.KernelRfl
namespace Go.Proofs.Ytgdojnamjkhknaa.ClWordRuns
open Go.Am
set_option maxRecDepth 100000
abbrev qt : List Nat := []
/-- cascade/cascadelaw12.WordRuns -/
def il3 : FnIL := ⟨42, [.tmp 0],
  .seq (.reg [
     ⟨(some 0), none, .mov (.const (.bool false))⟩])
  (.seq (.reg [
     ⟨(some 6), none, .mkrow [(.int .i64 0), (.int .i64 0)] 2 [(0, 1, (.const (.int .i64 1))), (1, 1, (.const (.int .i64 (-1))))]⟩,
     ⟨(some 7), none, .call 23 [(.tmp 6)]⟩,
     ⟨(some 1), none, .mov (.tmp 7)⟩])
  (.seq (.reg [
     ⟨(some 8), none, .mkrow [(.int .i64 0), (.int .i64 0)] 2 [(0, 1, (.const (.int .i64 3))), (1, 1, (.const (.int .i64 9)))]⟩,
     ⟨(some 9), none, .call 24 [(.tmp 8)]⟩,
     ⟨(some 2), none, .mov (.tmp 9)⟩])
  (.seq (.seq (.reg [
      ⟨(some 10), none, .mov (.tmp 2)⟩,
      ⟨(some 11), none, .eqv false .ptr (.tmp 10) (.const (.pointer none))⟩])
   (.ite (.tmp 11)
     (.seq (.reg [
        ⟨(some 0), none, .mov (.const (.bool false))⟩])
     (.ret))
     (.skip)))
  (.seq (.reg [
     ⟨(some 12), none, .mov (.tmp 2)⟩,
     ⟨(some 13), none, .call 25 [(.tmp 12), (.const (.int .i64 5))]⟩,
     ⟨(some 3), none, .mov (.tmp 13)⟩])
  (.seq (.reg [
     ⟨(some 14), none, .mov (.tmp 2)⟩,
     ⟨(some 15), none, .call 26 [(.tmp 14)]⟩,
     ⟨(some 4), none, .mov (.tmp 15)⟩])
  (.seq (.reg [
     ⟨(some 16), none, .mov (.tmp 2)⟩,
     ⟨(some 17), none, .call 25 [(.tmp 16), (.const (.int .i64 5))]⟩,
     ⟨(some 5), none, .mov (.tmp 17)⟩])
  (.seq (.reg [
     ⟨(some 18), none, .mov (.tmp 1)⟩,
     ⟨(some 19), none, .mkrow [(.int .u8 0), (.int .u8 0), (.int .u8 0), (.int .u8 0), (.int .u8 0), (.int .u8 0), (.int .u8 0), (.int .u8 0), (.int .u8 0), (.int .u8 0), (.int .u8 0), (.int .u8 0), (.int .u8 0), (.int .u8 0), (.int .u8 0), (.int .u8 0)] 16 [(0, 1, (.const (.int .u8 0))), (1, 1, (.const (.int .u8 0))), (2, 1, (.const (.int .u8 0))), (3, 1, (.const (.int .u8 0))), (4, 1, (.const (.int .u8 0))), (5, 1, (.const (.int .u8 0))), (6, 1, (.const (.int .u8 0))), (7, 1, (.const (.int .u8 1))), (8, 1, (.const (.int .u8 255))), (9, 1, (.const (.int .u8 255))), (10, 1, (.const (.int .u8 255))), (11, 1, (.const (.int .u8 255))), (12, 1, (.const (.int .u8 255))), (13, 1, (.const (.int .u8 255))), (14, 1, (.const (.int .u8 255))), (15, 1, (.const (.int .u8 255)))]⟩,
     ⟨(some 20), none, .call 27 [(.tmp 18), (.tmp 19)]⟩,
     ⟨(some 21), none, .mov (.tmp 20)⟩,
     ⟨(some 22), (some (21, true)), .mov (.tmp 3)⟩,
     ⟨(some 23), (some (21, true)), .bin .eql (.tmp 22) (.const (.int .i64 3))⟩,
     ⟨(some 24), none, .pick (.tmp 21) (.tmp 23) (.const (.bool false))⟩,
     ⟨(some 25), none, .mov (.tmp 24)⟩,
     ⟨(some 26), (some (25, true)), .mov (.tmp 4)⟩,
     ⟨(some 27), none, .pick (.tmp 25) (.tmp 26) (.const (.bool false))⟩,
     ⟨(some 28), none, .mov (.tmp 27)⟩,
     ⟨(some 29), (some (28, true)), .mov (.tmp 5)⟩,
     ⟨(some 30), (some (28, true)), .bin .eql (.tmp 29) (.const (.int .i64 0))⟩,
     ⟨(some 31), none, .pick (.tmp 28) (.tmp 30) (.const (.bool false))⟩,
     ⟨(some 32), none, .mov (.tmp 31)⟩,
     ⟨(some 33), (some (32, true)), .mov (.tmp 2)⟩,
     ⟨(some 34), (some (32, true)), .call 26 [(.tmp 33)]⟩,
     ⟨(some 35), (some (32, true)), .un .not (.tmp 34)⟩,
     ⟨(some 36), none, .pick (.tmp 32) (.tmp 35) (.const (.bool false))⟩,
     ⟨(some 37), none, .mov (.tmp 36)⟩,
     ⟨(some 38), (some (37, true)), .mov (.tmp 2)⟩,
     ⟨(some 39), (some (37, true)), .call 28 [(.tmp 38)]⟩,
     ⟨(some 40), (some (37, true)), .un .not (.tmp 39)⟩,
     ⟨(some 41), none, .pick (.tmp 37) (.tmp 40) (.const (.bool false))⟩,
     ⟨(some 0), none, .mov (.tmp 41)⟩])
  (.ret))))))))⟩
theorem st3 : stF Try.prog qt 3 = some il3 := by kernel_rfl
/-- cascade/word.Bytes -/
def il23 : FnIL := ⟨27, [.tmp 2],
  .seq (.reg [
     ⟨(some 2), none, .mov (.const (.slice none 0 0))⟩])
  (.seq (.reg [
     ⟨(some 3), none, .mov (.const (.slice none 0 0))⟩])
  (.seq (.seq (.reg [
      ⟨(some 7), none, .mov (.tmp 0)⟩,
      ⟨(some 8), none, .len (.tmp 7)⟩,
      ⟨(some 9), none, .mov (.const (.int .i64 0))⟩])
   (.block 0
     (.loop
       (.seq (.reg [
          ⟨(some 10), none, .bin .lss (.tmp 9) (.tmp 8)⟩])
       (.seq (.ite (.tmp 10)
          (.skip)
          (.exit 0))
       (.seq (.block 1
          (.seq (.reg [
             ⟨(some 11), none, .iadr 1 none (.tmp 7) (.tmp 9)⟩,
             ⟨(some 12), none, .load (.tmp 11) none⟩,
             ⟨(some 5), none, .mov (.tmp 12)⟩])
          (.seq (.reg [
             ⟨(some 6), none, .mov (.const (.int .i64 7))⟩])
          (.block 2
            (.loop
              (.seq (.seq (.reg [
                  ⟨(some 13), none, .mov (.tmp 6)⟩,
                  ⟨(some 14), none, .bin .geq (.tmp 13) (.const (.int .i64 0))⟩])
               (.ite (.tmp 14)
                 (.skip)
                 (.exit 2)))
              (.seq (.block 3
                 (.reg [
                   ⟨(some 17), none, .mov (.tmp 3)⟩,
                   ⟨(some 18), none, .mov (.tmp 5)⟩,
                   ⟨(some 19), none, .mov (.tmp 6)⟩,
                   ⟨(some 20), none, .bin .mul (.const (.int .i64 8)) (.tmp 19)⟩,
                   ⟨(some 21), none, .bin .shr (.tmp 18) (.tmp 20)⟩,
                   ⟨(some 22), none, .conv .u8 (.tmp 21)⟩,
                   ⟨(some 23), none, .mkrow [(.int .u8 0)] 1 [(0, 1, (.tmp 22))]⟩,
                   ⟨(some 24), none, .append 1 1 (.tmp 17) (.tmp 23)⟩,
                   ⟨(some 3), none, .mov (.tmp 24)⟩]))
              (.reg [
                ⟨(some 15), none, .mov (.tmp 6)⟩,
                ⟨(some 16), none, .bin .sub (.tmp 15) (.const (.int .i64 1))⟩,
                ⟨(some 6), none, .mov (.tmp 16)⟩]))))))))
       (.reg [
         ⟨(some 25), none, .bin .add (.tmp 9) (.const (.int .i64 1))⟩,
         ⟨(some 9), none, .mov (.tmp 25)⟩])))))))
  (.seq (.reg [
     ⟨(some 26), none, .mov (.tmp 3)⟩,
     ⟨(some 2), none, .mov (.tmp 26)⟩])
  (.ret))))⟩
theorem st23 : stF Try.prog qt 23 = some il23 := by kernel_rfl
/-- cascade/word.Read -/
def il24 : FnIL := ⟨7, [.tmp 2],
  .seq (.reg [
     ⟨(some 2), none, .mov (.const (.pointer none))⟩])
  (.seq (.reg [
     ⟨(some 3), none, .mov (.tmp 0)⟩,
     ⟨(some 4), none, .call 70 [(.tmp 3)]⟩,
     ⟨(some 5), none, .build [(.slice none 0 0), (.bool false)] [(0, 1, (.tmp 4))]⟩,
     ⟨(some 6), none, .box (.tmp 5)⟩,
     ⟨(some 2), none, .mov (.tmp 6)⟩])
  (.ret))⟩
theorem st24 : stF Try.prog qt 24 = some il24 := by kernel_rfl
/-- slices.Clone[[]int,int] -/
def il70 : FnIL := ⟨8, [.tmp 2],
  .seq (.reg [
     ⟨(some 2), none, .mov (.const (.slice none 0 0))⟩])
  (.seq (.seq (.reg [
      ⟨(some 3), none, .mov (.tmp 0)⟩,
      ⟨(some 4), none, .eqv false .slc (.tmp 3) (.const (.slice none 0 0))⟩])
   (.ite (.tmp 4)
     (.seq (.reg [
        ⟨(some 2), none, .mov (.const (.slice none 0 0))⟩])
     (.ret))
     (.skip)))
  (.seq (.reg [
     ⟨(some 5), none, .mkrow [] 0 []⟩,
     ⟨(some 6), none, .mov (.tmp 0)⟩,
     ⟨(some 7), none, .append 1 8 (.tmp 5) (.tmp 6)⟩,
     ⟨(some 2), none, .mov (.tmp 7)⟩])
  (.ret)))⟩
theorem st70 : stF Try.prog qt 70 = some il70 := by kernel_rfl
/-- (*cascade/word.Reader).Many -/
def il25 : FnIL := ⟨19, [.tmp 4],
  .seq (.reg [
     ⟨(some 4), none, .mov (.const (.int .i64 0))⟩])
  (.seq (.reg [
     ⟨(some 6), none, .mov (.tmp 0)⟩,
     ⟨(some 7), none, .call 29 [(.tmp 6)]⟩,
     ⟨(some 5), none, .mov (.tmp 7)⟩])
  (.seq (.seq (.reg [
      ⟨(some 8), none, .mov (.tmp 5)⟩,
      ⟨(some 9), none, .bin .lss (.tmp 8) (.const (.int .i64 0))⟩,
      ⟨(some 10), none, .mov (.tmp 9)⟩,
      ⟨(some 11), (some (10, false)), .mov (.tmp 5)⟩,
      ⟨(some 12), (some (10, false)), .mov (.tmp 1)⟩,
      ⟨(some 13), (some (10, false)), .bin .gtr (.tmp 11) (.tmp 12)⟩,
      ⟨(some 14), none, .pick (.tmp 10) (.const (.bool true)) (.tmp 13)⟩])
   (.ite (.tmp 14)
     (.seq (.reg [
        ⟨(some 15), none, .mov (.tmp 0)⟩,
        ⟨(some 16), none, .nilck (.tmp 15)⟩,
        ⟨(some 17), none, .fadr 1 (.tmp 16)⟩,
        ⟨none, none, .store (.tmp 17) (.const (.bool true)) 1⟩])
     (.seq (.reg [
        ⟨(some 4), none, .mov (.const (.int .i64 0))⟩])
     (.ret)))
     (.skip)))
  (.seq (.reg [
     ⟨(some 18), none, .mov (.tmp 5)⟩,
     ⟨(some 4), none, .mov (.tmp 18)⟩])
  (.ret))))⟩
theorem st25 : stF Try.prog qt 25 = some il25 := by kernel_rfl
/-- (*cascade/word.Reader).Next -/
def il29 : FnIL := ⟨34, [.tmp 2],
  .seq (.reg [
     ⟨(some 2), none, .mov (.const (.int .i64 0))⟩])
  (.seq (.seq (.reg [
      ⟨(some 4), none, .mov (.tmp 0)⟩,
      ⟨(some 5), none, .nilck (.tmp 4)⟩,
      ⟨(some 6), none, .fadr 1 (.tmp 5)⟩,
      ⟨(some 7), none, .load (.tmp 6) none⟩,
      ⟨(some 8), none, .mov (.tmp 7)⟩,
      ⟨(some 9), (some (8, false)), .mov (.tmp 0)⟩,
      ⟨(some 10), (some (8, false)), .nilck (.tmp 9)⟩,
      ⟨(some 11), (some (8, false)), .fadr 0 (.tmp 10)⟩,
      ⟨(some 12), (some (8, false)), .load (.tmp 11) none⟩,
      ⟨(some 13), (some (8, false)), .len (.tmp 12)⟩,
      ⟨(some 14), (some (8, false)), .bin .eql (.tmp 13) (.const (.int .i64 0))⟩,
      ⟨(some 15), none, .pick (.tmp 8) (.const (.bool true)) (.tmp 14)⟩])
   (.ite (.tmp 15)
     (.seq (.reg [
        ⟨(some 16), none, .mov (.tmp 0)⟩,
        ⟨(some 17), none, .nilck (.tmp 16)⟩,
        ⟨(some 18), none, .fadr 1 (.tmp 17)⟩,
        ⟨none, none, .store (.tmp 18) (.const (.bool true)) 1⟩])
     (.seq (.reg [
        ⟨(some 2), none, .mov (.const (.int .i64 0))⟩])
     (.ret)))
     (.skip)))
  (.seq (.reg [
     ⟨(some 19), none, .mov (.tmp 0)⟩,
     ⟨(some 20), none, .nilck (.tmp 19)⟩,
     ⟨(some 21), none, .fadr 0 (.tmp 20)⟩,
     ⟨(some 22), none, .load (.tmp 21) none⟩,
     ⟨(some 23), none, .iadr 1 none (.tmp 22) (.const (.int .i64 0))⟩,
     ⟨(some 24), none, .load (.tmp 23) none⟩,
     ⟨(some 3), none, .mov (.tmp 24)⟩])
  (.seq (.reg [
     ⟨(some 25), none, .mov (.tmp 0)⟩,
     ⟨(some 26), none, .mov (.tmp 0)⟩,
     ⟨(some 27), none, .nilck (.tmp 26)⟩,
     ⟨(some 28), none, .fadr 0 (.tmp 27)⟩,
     ⟨(some 29), none, .load (.tmp 28) none⟩,
     ⟨(some 30), none, .slice 1 (.tmp 29) (some (.const (.int .i64 1))) none none⟩,
     ⟨(some 31), none, .nilck (.tmp 25)⟩,
     ⟨(some 32), none, .fadr 0 (.tmp 31)⟩,
     ⟨none, none, .store (.tmp 32) (.tmp 30) 1⟩])
  (.seq (.reg [
     ⟨(some 33), none, .mov (.tmp 3)⟩,
     ⟨(some 2), none, .mov (.tmp 33)⟩])
  (.ret)))))⟩
theorem st29 : stF Try.prog qt 29 = some il29 := by kernel_rfl
/-- (*cascade/word.Reader).Good -/
def il26 : FnIL := ⟨8, [.tmp 2],
  .seq (.reg [
     ⟨(some 2), none, .mov (.const (.bool false))⟩])
  (.seq (.reg [
     ⟨(some 3), none, .mov (.tmp 0)⟩,
     ⟨(some 4), none, .nilck (.tmp 3)⟩,
     ⟨(some 5), none, .fadr 1 (.tmp 4)⟩,
     ⟨(some 6), none, .load (.tmp 5) none⟩,
     ⟨(some 7), none, .un .not (.tmp 6)⟩,
     ⟨(some 2), none, .mov (.tmp 7)⟩])
  (.ret))⟩
theorem st26 : stF Try.prog qt 26 = some il26 := by kernel_rfl
/-- cascade/cascadebook.Same[byte] -/
def il27 : FnIL := ⟨26, [.tmp 4],
  .seq (.reg [
     ⟨(some 4), none, .mov (.const (.bool false))⟩])
  (.seq (.seq (.reg [
      ⟨(some 6), none, .mov (.tmp 0)⟩,
      ⟨(some 7), none, .len (.tmp 6)⟩,
      ⟨(some 8), none, .mov (.tmp 1)⟩,
      ⟨(some 9), none, .len (.tmp 8)⟩,
      ⟨(some 10), none, .bin .neq (.tmp 7) (.tmp 9)⟩])
   (.ite (.tmp 10)
     (.seq (.reg [
        ⟨(some 4), none, .mov (.const (.bool false))⟩])
     (.ret))
     (.skip)))
  (.seq (.seq (.reg [
      ⟨(some 5), none, .mov (.const (.int .i64 0))⟩])
   (.block 0
     (.loop
       (.seq (.seq (.reg [
           ⟨(some 11), none, .mov (.tmp 5)⟩,
           ⟨(some 12), none, .mov (.tmp 0)⟩,
           ⟨(some 13), none, .len (.tmp 12)⟩,
           ⟨(some 14), none, .bin .lss (.tmp 11) (.tmp 13)⟩])
        (.ite (.tmp 14)
          (.skip)
          (.exit 0)))
       (.seq (.block 1
          (.seq (.dreg [
             ⟨(some 17), none, .mov (.tmp 0)⟩,
             ⟨(some 18), none, .mov (.tmp 5)⟩,
             ⟨(some 19), none, .iadr 1 none (.tmp 17) (.tmp 18)⟩,
             ⟨(some 20), none, .load (.tmp 19) none⟩,
             ⟨(some 21), none, .mov (.tmp 1)⟩,
             ⟨(some 22), none, .mov (.tmp 5)⟩,
             ⟨(some 23), none, .iadr 1 none (.tmp 21) (.tmp 22)⟩,
             ⟨(some 24), none, .load (.tmp 23) none⟩,
             ⟨(some 25), none, .bin .neq (.tmp 20) (.tmp 24)⟩] [])
          (.ite (.tmp 25)
            (.seq (.reg [
               ⟨(some 4), none, .mov (.const (.bool false))⟩])
            (.ret))
            (.skip))))
       (.reg [
         ⟨(some 15), none, .mov (.tmp 5)⟩,
         ⟨(some 16), none, .bin .add (.tmp 15) (.const (.int .i64 1))⟩,
         ⟨(some 5), none, .mov (.tmp 16)⟩]))))))
  (.seq (.reg [
     ⟨(some 4), none, .mov (.const (.bool true))⟩])
  (.ret))))⟩
theorem st27 : stF Try.prog qt 27 = some il27 := by kernel_rfl
/-- (*cascade/word.Reader).Done -/
def il28 : FnIL := ⟨16, [.tmp 2],
  .seq (.reg [
     ⟨(some 2), none, .mov (.const (.bool false))⟩])
  (.seq (.reg [
     ⟨(some 3), none, .mov (.tmp 0)⟩,
     ⟨(some 4), none, .nilck (.tmp 3)⟩,
     ⟨(some 5), none, .fadr 1 (.tmp 4)⟩,
     ⟨(some 6), none, .load (.tmp 5) none⟩,
     ⟨(some 7), none, .un .not (.tmp 6)⟩,
     ⟨(some 8), none, .mov (.tmp 7)⟩,
     ⟨(some 9), (some (8, true)), .mov (.tmp 0)⟩,
     ⟨(some 10), (some (8, true)), .nilck (.tmp 9)⟩,
     ⟨(some 11), (some (8, true)), .fadr 0 (.tmp 10)⟩,
     ⟨(some 12), (some (8, true)), .load (.tmp 11) none⟩,
     ⟨(some 13), (some (8, true)), .len (.tmp 12)⟩,
     ⟨(some 14), (some (8, true)), .bin .eql (.tmp 13) (.const (.int .i64 0))⟩,
     ⟨(some 15), none, .pick (.tmp 8) (.tmp 14) (.const (.bool false))⟩,
     ⟨(some 2), none, .mov (.tmp 15)⟩])
  (.ret))⟩
theorem st28 : stF Try.prog qt 28 = some il28 := by kernel_rfl
def tab : Tab := [(3, il3), (23, il23), (24, il24), (70, il70), (25, il25), (29, il29), (26, il26), (27, il27), (28, il28)]
theorem tabOk : TabOk Try.prog qt tab := .cons st3 (.cons st23 (.cons st24 (.cons st70 (.cons st25 (.cons st29 (.cons st26 (.cons st27 (.cons st28 (.nil)))))))))
theorem run : fnF tab qt 10000 20 3 [] [] = some (.bool true, []) := by kernel_rfl
theorem sim : Sim Try.prog 3 [] [] fun v h => v = .bool true ∧ h = [] := fnF_ok (by kernel_rfl) tabOk 10000 20 3 [] [] _ _ run
end Go.Proofs.Ytgdojnamjkhknaa.ClWordRuns
