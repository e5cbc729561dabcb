/-
  The law WordReads: a reader tells the ints one by one.
-/
import Derived.Test.YtgdojnamjkhknaaWFn
import Derived.Test.YtgdojnamjkhknaaClWordRuns
import Derived.Test.YtgdojnamjkhknaaLc5
namespace Go.Proofs.Ytgdojnamjkhknaa
open Go.Am
set_option linter.all false
set_option maxRecDepth 100000
namespace WR
def sRuns : List Value → Option (Bool × Value)
  | [] => some (true, .bool true)
  | _ => none
def tbl : Plain := [(3, sRuns)]
theorem tbl_ok : PlainOk Try.prog tbl := .cons (fun args v e => by
  unfold sRuns at e
  split at e
  · cases e; exact ⟨rfl, rfl, ClWordRuns.sim.mono fun _ _ q => q.1⟩
  · cases e) .nil
/-- cascade/cascadelaw12.WordReads -/
def il4 : FnIL := ⟨106, [.tmp 4],
 .seq (.reg [
    ⟨(some 4), none, .mov (.const (.bool false))⟩])
 (.seq (.reg [
    ⟨(some 12), none, .mkrow [] 0 []⟩,
    ⟨(some 13), none, .mov (.tmp 0)⟩,
    ⟨(some 14), none, .mov (.tmp 0)⟩,
    ⟨(some 15), none, .len (.tmp 14)⟩,
    ⟨(some 16), none, .mn (.tmp 15) (.const (.int .i64 20))⟩,
    ⟨(some 17), none, .slice 1 (.tmp 13) none (some (.tmp 16)) none⟩,
    ⟨(some 18), none, .append 1 8 (.tmp 12) (.tmp 17)⟩,
    ⟨(some 5), none, .mov (.tmp 18)⟩])
 (.seq (.reg [
    ⟨(some 19), none, .mov (.tmp 5)⟩,
    ⟨(some 20), none, .call 24 [(.tmp 19)]⟩,
    ⟨(some 6), none, .mov (.tmp 20)⟩])
 (.seq (.seq (.reg [
     ⟨(some 21), none, .mov (.tmp 6)⟩,
     ⟨(some 22), none, .eqv false .ptr (.tmp 21) (.const (.pointer none))⟩])
  (.ite (.tmp 22)
    (.seq (.reg [
       ⟨(some 4), none, .mov (.const (.bool false))⟩])
    (.ret))
    (.skip)))
 (.seq (.reg [
    ⟨(some 7), none, .mov (.const (.int .i64 0))⟩,
    ⟨(some 8), none, .mov (.const (.bool true))⟩])
 (.seq (.seq (.reg [
     ⟨(some 9), none, .mov (.const (.int .i64 0))⟩])
  (.block 0
    (.loop
      (.seq (.seq (.reg [
          ⟨(some 23), none, .mov (.tmp 9)⟩,
          ⟨(some 24), none, .mov (.tmp 1)⟩,
          ⟨(some 25), none, .len (.tmp 24)⟩,
          ⟨(some 26), none, .bin .lss (.tmp 23) (.tmp 25)⟩,
          ⟨(some 27), none, .mov (.tmp 26)⟩,
          ⟨(some 28), (some (27, true)), .mov (.tmp 9)⟩,
          ⟨(some 29), (some (27, true)), .bin .lss (.tmp 28) (.const (.int .i64 30))⟩,
          ⟨(some 30), none, .pick (.tmp 27) (.tmp 29) (.const (.bool false))⟩])
       (.ite (.tmp 30)
         (.skip)
         (.exit 0)))
      (.seq (.block 1
         (.seq (.reg [
            ⟨(some 10), none, .mov (.const (.int .i64 0))⟩])
         (.seq (.reg [
            ⟨(some 33), none, .mov (.tmp 8)⟩,
            ⟨(some 34), none, .mov (.tmp 33)⟩,
            ⟨(some 35), (some (34, true)), .mov (.tmp 7)⟩,
            ⟨(some 36), (some (34, true)), .mov (.tmp 5)⟩,
            ⟨(some 37), (some (34, true)), .len (.tmp 36)⟩,
            ⟨(some 38), (some (34, true)), .bin .lss (.tmp 35) (.tmp 37)⟩,
            ⟨(some 39), none, .pick (.tmp 34) (.tmp 38) (.const (.bool false))⟩,
            ⟨(some 11), none, .mov (.tmp 39)⟩])
         (.seq (.seq (.reg [
             ⟨(some 40), none, .mov (.tmp 1)⟩,
             ⟨(some 41), none, .mov (.tmp 9)⟩,
             ⟨(some 42), none, .iadr 1 none (.tmp 40) (.tmp 41)⟩,
             ⟨(some 43), none, .load (.tmp 42) none⟩,
             ⟨(some 44), none, .bin .and (.tmp 43) (.const (.int .i64 1))⟩,
             ⟨(some 45), none, .bin .eql (.tmp 44) (.const (.int .i64 0))⟩])
          (.ite (.tmp 45)
            (.seq (.seq (.reg [
                ⟨(some 46), none, .mov (.tmp 11)⟩])
             (.ite (.tmp 46)
               (.reg [
                 ⟨(some 47), none, .mov (.tmp 5)⟩,
                 ⟨(some 48), none, .mov (.tmp 7)⟩,
                 ⟨(some 49), none, .iadr 1 none (.tmp 47) (.tmp 48)⟩,
                 ⟨(some 50), none, .load (.tmp 49) none⟩,
                 ⟨(some 10), none, .mov (.tmp 50)⟩])
               (.skip)))
            (.seq (.reg [
               ⟨(some 51), none, .mov (.tmp 6)⟩,
               ⟨(some 52), none, .call 29 [(.tmp 51)]⟩,
               ⟨(some 53), none, .mov (.tmp 10)⟩,
               ⟨(some 54), none, .bin .neq (.tmp 52) (.tmp 53)⟩])
            (.ite (.tmp 54)
              (.seq (.reg [
                 ⟨(some 4), none, .mov (.const (.bool false))⟩])
              (.ret))
              (.skip))))
            (.seq (.seq (.dreg [
                ⟨(some 55), none, .mov (.tmp 11)⟩,
                ⟨(some 56), none, .mov (.tmp 55)⟩,
                ⟨(some 57), (some (56, true)), .mov (.tmp 5)⟩,
                ⟨(some 58), (some (56, true)), .mov (.tmp 7)⟩,
                ⟨(some 59), (some (56, true)), .iadr 1 none (.tmp 57) (.tmp 58)⟩,
                ⟨(some 60), (some (56, true)), .load (.tmp 59) none⟩,
                ⟨(some 61), (some (56, true)), .bin .geq (.tmp 60) (.const (.int .i64 0))⟩,
                ⟨(some 62), none, .pick (.tmp 56) (.tmp 61) (.const (.bool false))⟩,
                ⟨(some 63), none, .mov (.tmp 62)⟩,
                ⟨(some 64), (some (63, true)), .mov (.tmp 5)⟩,
                ⟨(some 65), (some (63, true)), .mov (.tmp 7)⟩,
                ⟨(some 66), (some (63, true)), .iadr 1 none (.tmp 64) (.tmp 65)⟩,
                ⟨(some 67), (some (63, true)), .load (.tmp 66) none⟩,
                ⟨(some 68), (some (63, true)), .mov (.tmp 1)⟩,
                ⟨(some 69), (some (63, true)), .mov (.tmp 9)⟩,
                ⟨(some 70), (some (63, true)), .iadr 1 none (.tmp 68) (.tmp 69)⟩,
                ⟨(some 71), (some (63, true)), .load (.tmp 70) none⟩,
                ⟨(some 72), (some (63, true)), .bin .leq (.tmp 67) (.tmp 71)⟩,
                ⟨(some 73), none, .pick (.tmp 63) (.tmp 72) (.const (.bool false))⟩] [])
             (.ite (.tmp 73)
               (.reg [
                 ⟨(some 74), none, .mov (.tmp 5)⟩,
                 ⟨(some 75), none, .mov (.tmp 7)⟩,
                 ⟨(some 76), none, .iadr 1 none (.tmp 74) (.tmp 75)⟩,
                 ⟨(some 77), none, .load (.tmp 76) none⟩,
                 ⟨(some 10), none, .mov (.tmp 77)⟩])
               (.reg [
                 ⟨(some 11), none, .mov (.const (.bool false))⟩])))
            (.seq (.reg [
               ⟨(some 78), none, .mov (.tmp 6)⟩,
               ⟨(some 79), none, .mov (.tmp 1)⟩,
               ⟨(some 80), none, .mov (.tmp 9)⟩,
               ⟨(some 81), none, .iadr 1 none (.tmp 79) (.tmp 80)⟩,
               ⟨(some 82), none, .load (.tmp 81) none⟩,
               ⟨(some 83), none, .call 25 [(.tmp 78), (.tmp 82)]⟩,
               ⟨(some 84), none, .mov (.tmp 10)⟩,
               ⟨(some 85), none, .bin .neq (.tmp 83) (.tmp 84)⟩])
            (.ite (.tmp 85)
              (.seq (.reg [
                 ⟨(some 4), none, .mov (.const (.bool false))⟩])
              (.ret))
              (.skip))))))
         (.seq (.seq (.reg [
             ⟨(some 86), none, .mov (.tmp 11)⟩])
          (.ite (.tmp 86)
            (.reg [
              ⟨(some 87), none, .mov (.tmp 7)⟩,
              ⟨(some 88), none, .bin .add (.tmp 87) (.const (.int .i64 1))⟩,
              ⟨(some 7), none, .mov (.tmp 88)⟩])
            (.reg [
              ⟨(some 8), none, .mov (.const (.bool false))⟩])))
         (.seq (.reg [
            ⟨(some 89), none, .mov (.tmp 6)⟩,
            ⟨(some 90), none, .call 26 [(.tmp 89)]⟩,
            ⟨(some 91), none, .mov (.tmp 8)⟩,
            ⟨(some 92), none, .eqv true .bool (.tmp 90) (.tmp 91)⟩,
            ⟨(some 93), none, .mov (.tmp 92)⟩,
            ⟨(some 94), (some (93, false)), .mov (.tmp 6)⟩,
            ⟨(some 95), (some (93, false)), .call 28 [(.tmp 94)]⟩,
            ⟨(some 96), (some (93, false)), .mov (.tmp 8)⟩,
            ⟨(some 97), (some (93, false)), .mov (.tmp 96)⟩,
            ⟨(some 98), (some (97, true)), .mov (.tmp 7)⟩,
            ⟨(some 99), (some (97, true)), .mov (.tmp 5)⟩,
            ⟨(some 100), (some (97, true)), .len (.tmp 99)⟩,
            ⟨(some 101), (some (97, true)), .bin .eql (.tmp 98) (.tmp 100)⟩,
            ⟨(some 102), (some (93, false)), .pick (.tmp 97) (.tmp 101) (.const (.bool false))⟩,
            ⟨(some 103), (some (93, false)), .eqv true .bool (.tmp 95) (.tmp 102)⟩,
            ⟨(some 104), none, .pick (.tmp 93) (.const (.bool true)) (.tmp 103)⟩])
         (.ite (.tmp 104)
           (.seq (.reg [
              ⟨(some 4), none, .mov (.const (.bool false))⟩])
           (.ret))
           (.skip))))))))
      (.reg [
        ⟨(some 31), none, .mov (.tmp 9)⟩,
        ⟨(some 32), none, .bin .add (.tmp 31) (.const (.int .i64 1))⟩,
        ⟨(some 9), none, .mov (.tmp 32)⟩]))))))
 (.seq (.reg [
    ⟨(some 105), none, .call 3 []⟩,
    ⟨(some 4), none, .mov (.tmp 105)⟩])
 (.ret)))))))⟩
theorem st4 : stF Try.prog qt 4 = some il4 := by kernel_rfl
/-- cascade/word.Read -/
def il24 : FnIL := ⟨7, [.tmp 2],
 .seq (.reg [
    ⟨(some 2), none, .mov (.const (.pointer none))⟩])
 (.seq (.reg [
    ⟨(some 3), none, .mov (.tmp 0)⟩,
    ⟨(some 4), none, .call 70 [(.tmp 3)]⟩,
    ⟨(some 5), none, .build [(.slice none 0 0), (.bool false)] [(0, 1, (.tmp 4))]⟩,
    ⟨(some 6), none, .box (.tmp 5)⟩,
    ⟨(some 2), none, .mov (.tmp 6)⟩])
 (.ret))⟩
theorem st24 : stF Try.prog qt 24 = some il24 := by kernel_rfl
/-- slices.Clone[[]int,int] -/
def il70 : FnIL := ⟨8, [.tmp 2],
 .seq (.reg [
    ⟨(some 2), none, .mov (.const (.slice none 0 0))⟩])
 (.seq (.seq (.reg [
     ⟨(some 3), none, .mov (.tmp 0)⟩,
     ⟨(some 4), none, .eqv false .slc (.tmp 3) (.const (.slice none 0 0))⟩])
  (.ite (.tmp 4)
    (.seq (.reg [
       ⟨(some 2), none, .mov (.const (.slice none 0 0))⟩])
    (.ret))
    (.skip)))
 (.seq (.reg [
    ⟨(some 5), none, .mkrow [] 0 []⟩,
    ⟨(some 6), none, .mov (.tmp 0)⟩,
    ⟨(some 7), none, .append 1 8 (.tmp 5) (.tmp 6)⟩,
    ⟨(some 2), none, .mov (.tmp 7)⟩])
 (.ret)))⟩
theorem st70 : stF Try.prog qt 70 = some il70 := by kernel_rfl
/-- (*cascade/word.Reader).Next -/
def il29 : FnIL := ⟨34, [.tmp 2],
 .seq (.reg [
    ⟨(some 2), none, .mov (.const (.int .i64 0))⟩])
 (.seq (.seq (.reg [
     ⟨(some 4), none, .mov (.tmp 0)⟩,
     ⟨(some 5), none, .nilck (.tmp 4)⟩,
     ⟨(some 6), none, .fadr 1 (.tmp 5)⟩,
     ⟨(some 7), none, .load (.tmp 6) none⟩,
     ⟨(some 8), none, .mov (.tmp 7)⟩,
     ⟨(some 9), (some (8, false)), .mov (.tmp 0)⟩,
     ⟨(some 10), (some (8, false)), .nilck (.tmp 9)⟩,
     ⟨(some 11), (some (8, false)), .fadr 0 (.tmp 10)⟩,
     ⟨(some 12), (some (8, false)), .load (.tmp 11) none⟩,
     ⟨(some 13), (some (8, false)), .len (.tmp 12)⟩,
     ⟨(some 14), (some (8, false)), .bin .eql (.tmp 13) (.const (.int .i64 0))⟩,
     ⟨(some 15), none, .pick (.tmp 8) (.const (.bool true)) (.tmp 14)⟩])
  (.ite (.tmp 15)
    (.seq (.reg [
       ⟨(some 16), none, .mov (.tmp 0)⟩,
       ⟨(some 17), none, .nilck (.tmp 16)⟩,
       ⟨(some 18), none, .fadr 1 (.tmp 17)⟩,
       ⟨none, none, .store (.tmp 18) (.const (.bool true)) 1⟩])
    (.seq (.reg [
       ⟨(some 2), none, .mov (.const (.int .i64 0))⟩])
    (.ret)))
    (.skip)))
 (.seq (.reg [
    ⟨(some 19), none, .mov (.tmp 0)⟩,
    ⟨(some 20), none, .nilck (.tmp 19)⟩,
    ⟨(some 21), none, .fadr 0 (.tmp 20)⟩,
    ⟨(some 22), none, .load (.tmp 21) none⟩,
    ⟨(some 23), none, .iadr 1 none (.tmp 22) (.const (.int .i64 0))⟩,
    ⟨(some 24), none, .load (.tmp 23) none⟩,
    ⟨(some 3), none, .mov (.tmp 24)⟩])
 (.seq (.reg [
    ⟨(some 25), none, .mov (.tmp 0)⟩,
    ⟨(some 26), none, .mov (.tmp 0)⟩,
    ⟨(some 27), none, .nilck (.tmp 26)⟩,
    ⟨(some 28), none, .fadr 0 (.tmp 27)⟩,
    ⟨(some 29), none, .load (.tmp 28) none⟩,
    ⟨(some 30), none, .slice 1 (.tmp 29) (some (.const (.int .i64 1))) none none⟩,
    ⟨(some 31), none, .nilck (.tmp 25)⟩,
    ⟨(some 32), none, .fadr 0 (.tmp 31)⟩,
    ⟨none, none, .store (.tmp 32) (.tmp 30) 1⟩])
 (.seq (.reg [
    ⟨(some 33), none, .mov (.tmp 3)⟩,
    ⟨(some 2), none, .mov (.tmp 33)⟩])
 (.ret)))))⟩
theorem st29 : stF Try.prog qt 29 = some il29 := by kernel_rfl
/-- (*cascade/word.Reader).Many -/
def il25 : FnIL := ⟨19, [.tmp 4],
 .seq (.reg [
    ⟨(some 4), none, .mov (.const (.int .i64 0))⟩])
 (.seq (.reg [
    ⟨(some 6), none, .mov (.tmp 0)⟩,
    ⟨(some 7), none, .call 29 [(.tmp 6)]⟩,
    ⟨(some 5), none, .mov (.tmp 7)⟩])
 (.seq (.seq (.reg [
     ⟨(some 8), none, .mov (.tmp 5)⟩,
     ⟨(some 9), none, .bin .lss (.tmp 8) (.const (.int .i64 0))⟩,
     ⟨(some 10), none, .mov (.tmp 9)⟩,
     ⟨(some 11), (some (10, false)), .mov (.tmp 5)⟩,
     ⟨(some 12), (some (10, false)), .mov (.tmp 1)⟩,
     ⟨(some 13), (some (10, false)), .bin .gtr (.tmp 11) (.tmp 12)⟩,
     ⟨(some 14), none, .pick (.tmp 10) (.const (.bool true)) (.tmp 13)⟩])
  (.ite (.tmp 14)
    (.seq (.reg [
       ⟨(some 15), none, .mov (.tmp 0)⟩,
       ⟨(some 16), none, .nilck (.tmp 15)⟩,
       ⟨(some 17), none, .fadr 1 (.tmp 16)⟩,
       ⟨none, none, .store (.tmp 17) (.const (.bool true)) 1⟩])
    (.seq (.reg [
       ⟨(some 4), none, .mov (.const (.int .i64 0))⟩])
    (.ret)))
    (.skip)))
 (.seq (.reg [
    ⟨(some 18), none, .mov (.tmp 5)⟩,
    ⟨(some 4), none, .mov (.tmp 18)⟩])
 (.ret))))⟩
theorem st25 : stF Try.prog qt 25 = some il25 := by kernel_rfl
/-- (*cascade/word.Reader).Good -/
def il26 : FnIL := ⟨8, [.tmp 2],
 .seq (.reg [
    ⟨(some 2), none, .mov (.const (.bool false))⟩])
 (.seq (.reg [
    ⟨(some 3), none, .mov (.tmp 0)⟩,
    ⟨(some 4), none, .nilck (.tmp 3)⟩,
    ⟨(some 5), none, .fadr 1 (.tmp 4)⟩,
    ⟨(some 6), none, .load (.tmp 5) none⟩,
    ⟨(some 7), none, .un .not (.tmp 6)⟩,
    ⟨(some 2), none, .mov (.tmp 7)⟩])
 (.ret))⟩
theorem st26 : stF Try.prog qt 26 = some il26 := by kernel_rfl
/-- (*cascade/word.Reader).Done -/
def il28 : FnIL := ⟨16, [.tmp 2],
 .seq (.reg [
    ⟨(some 2), none, .mov (.const (.bool false))⟩])
 (.seq (.reg [
    ⟨(some 3), none, .mov (.tmp 0)⟩,
    ⟨(some 4), none, .nilck (.tmp 3)⟩,
    ⟨(some 5), none, .fadr 1 (.tmp 4)⟩,
    ⟨(some 6), none, .load (.tmp 5) none⟩,
    ⟨(some 7), none, .un .not (.tmp 6)⟩,
    ⟨(some 8), none, .mov (.tmp 7)⟩,
    ⟨(some 9), (some (8, true)), .mov (.tmp 0)⟩,
    ⟨(some 10), (some (8, true)), .nilck (.tmp 9)⟩,
    ⟨(some 11), (some (8, true)), .fadr 0 (.tmp 10)⟩,
    ⟨(some 12), (some (8, true)), .load (.tmp 11) none⟩,
    ⟨(some 13), (some (8, true)), .len (.tmp 12)⟩,
    ⟨(some 14), (some (8, true)), .bin .eql (.tmp 13) (.const (.int .i64 0))⟩,
    ⟨(some 15), none, .pick (.tmp 8) (.tmp 14) (.const (.bool false))⟩,
    ⟨(some 2), none, .mov (.tmp 15)⟩])
 (.ret))⟩
theorem st28 : stF Try.prog qt 28 = some il28 := by kernel_rfl
def body4_0 : IL := .seq (.seq (.reg [
     ⟨(some 23), none, .mov (.tmp 9)⟩,
     ⟨(some 24), none, .mov (.tmp 1)⟩,
     ⟨(some 25), none, .len (.tmp 24)⟩,
     ⟨(some 26), none, .bin .lss (.tmp 23) (.tmp 25)⟩,
     ⟨(some 27), none, .mov (.tmp 26)⟩,
     ⟨(some 28), (some (27, true)), .mov (.tmp 9)⟩,
     ⟨(some 29), (some (27, true)), .bin .lss (.tmp 28) (.const (.int .i64 30))⟩,
     ⟨(some 30), none, .pick (.tmp 27) (.tmp 29) (.const (.bool false))⟩])
  (.ite (.tmp 30)
    (.skip)
    (.exit 0)))
 (.seq (.block 1
    (.seq (.reg [
       ⟨(some 10), none, .mov (.const (.int .i64 0))⟩])
    (.seq (.reg [
       ⟨(some 33), none, .mov (.tmp 8)⟩,
       ⟨(some 34), none, .mov (.tmp 33)⟩,
       ⟨(some 35), (some (34, true)), .mov (.tmp 7)⟩,
       ⟨(some 36), (some (34, true)), .mov (.tmp 5)⟩,
       ⟨(some 37), (some (34, true)), .len (.tmp 36)⟩,
       ⟨(some 38), (some (34, true)), .bin .lss (.tmp 35) (.tmp 37)⟩,
       ⟨(some 39), none, .pick (.tmp 34) (.tmp 38) (.const (.bool false))⟩,
       ⟨(some 11), none, .mov (.tmp 39)⟩])
    (.seq (.seq (.reg [
        ⟨(some 40), none, .mov (.tmp 1)⟩,
        ⟨(some 41), none, .mov (.tmp 9)⟩,
        ⟨(some 42), none, .iadr 1 none (.tmp 40) (.tmp 41)⟩,
        ⟨(some 43), none, .load (.tmp 42) none⟩,
        ⟨(some 44), none, .bin .and (.tmp 43) (.const (.int .i64 1))⟩,
        ⟨(some 45), none, .bin .eql (.tmp 44) (.const (.int .i64 0))⟩])
     (.ite (.tmp 45)
       (.seq (.seq (.reg [
           ⟨(some 46), none, .mov (.tmp 11)⟩])
        (.ite (.tmp 46)
          (.reg [
            ⟨(some 47), none, .mov (.tmp 5)⟩,
            ⟨(some 48), none, .mov (.tmp 7)⟩,
            ⟨(some 49), none, .iadr 1 none (.tmp 47) (.tmp 48)⟩,
            ⟨(some 50), none, .load (.tmp 49) none⟩,
            ⟨(some 10), none, .mov (.tmp 50)⟩])
          (.skip)))
       (.seq (.reg [
          ⟨(some 51), none, .mov (.tmp 6)⟩,
          ⟨(some 52), none, .call 29 [(.tmp 51)]⟩,
          ⟨(some 53), none, .mov (.tmp 10)⟩,
          ⟨(some 54), none, .bin .neq (.tmp 52) (.tmp 53)⟩])
       (.ite (.tmp 54)
         (.seq (.reg [
            ⟨(some 4), none, .mov (.const (.bool false))⟩])
         (.ret))
         (.skip))))
       (.seq (.seq (.dreg [
           ⟨(some 55), none, .mov (.tmp 11)⟩,
           ⟨(some 56), none, .mov (.tmp 55)⟩,
           ⟨(some 57), (some (56, true)), .mov (.tmp 5)⟩,
           ⟨(some 58), (some (56, true)), .mov (.tmp 7)⟩,
           ⟨(some 59), (some (56, true)), .iadr 1 none (.tmp 57) (.tmp 58)⟩,
           ⟨(some 60), (some (56, true)), .load (.tmp 59) none⟩,
           ⟨(some 61), (some (56, true)), .bin .geq (.tmp 60) (.const (.int .i64 0))⟩,
           ⟨(some 62), none, .pick (.tmp 56) (.tmp 61) (.const (.bool false))⟩,
           ⟨(some 63), none, .mov (.tmp 62)⟩,
           ⟨(some 64), (some (63, true)), .mov (.tmp 5)⟩,
           ⟨(some 65), (some (63, true)), .mov (.tmp 7)⟩,
           ⟨(some 66), (some (63, true)), .iadr 1 none (.tmp 64) (.tmp 65)⟩,
           ⟨(some 67), (some (63, true)), .load (.tmp 66) none⟩,
           ⟨(some 68), (some (63, true)), .mov (.tmp 1)⟩,
           ⟨(some 69), (some (63, true)), .mov (.tmp 9)⟩,
           ⟨(some 70), (some (63, true)), .iadr 1 none (.tmp 68) (.tmp 69)⟩,
           ⟨(some 71), (some (63, true)), .load (.tmp 70) none⟩,
           ⟨(some 72), (some (63, true)), .bin .leq (.tmp 67) (.tmp 71)⟩,
           ⟨(some 73), none, .pick (.tmp 63) (.tmp 72) (.const (.bool false))⟩] [])
        (.ite (.tmp 73)
          (.reg [
            ⟨(some 74), none, .mov (.tmp 5)⟩,
            ⟨(some 75), none, .mov (.tmp 7)⟩,
            ⟨(some 76), none, .iadr 1 none (.tmp 74) (.tmp 75)⟩,
            ⟨(some 77), none, .load (.tmp 76) none⟩,
            ⟨(some 10), none, .mov (.tmp 77)⟩])
          (.reg [
            ⟨(some 11), none, .mov (.const (.bool false))⟩])))
       (.seq (.reg [
          ⟨(some 78), none, .mov (.tmp 6)⟩,
          ⟨(some 79), none, .mov (.tmp 1)⟩,
          ⟨(some 80), none, .mov (.tmp 9)⟩,
          ⟨(some 81), none, .iadr 1 none (.tmp 79) (.tmp 80)⟩,
          ⟨(some 82), none, .load (.tmp 81) none⟩,
          ⟨(some 83), none, .call 25 [(.tmp 78), (.tmp 82)]⟩,
          ⟨(some 84), none, .mov (.tmp 10)⟩,
          ⟨(some 85), none, .bin .neq (.tmp 83) (.tmp 84)⟩])
       (.ite (.tmp 85)
         (.seq (.reg [
            ⟨(some 4), none, .mov (.const (.bool false))⟩])
         (.ret))
         (.skip))))))
    (.seq (.seq (.reg [
        ⟨(some 86), none, .mov (.tmp 11)⟩])
     (.ite (.tmp 86)
       (.reg [
         ⟨(some 87), none, .mov (.tmp 7)⟩,
         ⟨(some 88), none, .bin .add (.tmp 87) (.const (.int .i64 1))⟩,
         ⟨(some 7), none, .mov (.tmp 88)⟩])
       (.reg [
         ⟨(some 8), none, .mov (.const (.bool false))⟩])))
    (.seq (.reg [
       ⟨(some 89), none, .mov (.tmp 6)⟩,
       ⟨(some 90), none, .call 26 [(.tmp 89)]⟩,
       ⟨(some 91), none, .mov (.tmp 8)⟩,
       ⟨(some 92), none, .eqv true .bool (.tmp 90) (.tmp 91)⟩,
       ⟨(some 93), none, .mov (.tmp 92)⟩,
       ⟨(some 94), (some (93, false)), .mov (.tmp 6)⟩,
       ⟨(some 95), (some (93, false)), .call 28 [(.tmp 94)]⟩,
       ⟨(some 96), (some (93, false)), .mov (.tmp 8)⟩,
       ⟨(some 97), (some (93, false)), .mov (.tmp 96)⟩,
       ⟨(some 98), (some (97, true)), .mov (.tmp 7)⟩,
       ⟨(some 99), (some (97, true)), .mov (.tmp 5)⟩,
       ⟨(some 100), (some (97, true)), .len (.tmp 99)⟩,
       ⟨(some 101), (some (97, true)), .bin .eql (.tmp 98) (.tmp 100)⟩,
       ⟨(some 102), (some (93, false)), .pick (.tmp 97) (.tmp 101) (.const (.bool false))⟩,
       ⟨(some 103), (some (93, false)), .eqv true .bool (.tmp 95) (.tmp 102)⟩,
       ⟨(some 104), none, .pick (.tmp 93) (.const (.bool true)) (.tmp 103)⟩])
    (.ite (.tmp 104)
      (.seq (.reg [
         ⟨(some 4), none, .mov (.const (.bool false))⟩])
      (.ret))
      (.skip))))))))
 (.reg [
   ⟨(some 31), none, .mov (.tmp 9)⟩,
   ⟨(some 32), none, .bin .add (.tmp 31) (.const (.int .i64 1))⟩,
   ⟨(some 9), none, .mov (.tmp 32)⟩]))
def inl : Tab := [(24, il24), (70, il70), (29, il29), (25, il25), (26, il26), (28, il28)]
theorem inl_ok : TabOk Try.prog qt inl := .cons st24 (.cons st70 (.cons st29 (.cons st25 (.cons st26 (.cons st28 .nil)))))
noncomputable abbrev gE (k : Nat) : Env := inE tbl inl k noEnv
noncomputable abbrev cE (k : Nat) : CallS := callS tbl inl noEnv 100 k
theorem noq : noQt qt inl := fun f F h => rfl
theorem gE_q (k : Nat) : QuietEnv qt (Plain.env tbl (gE k)) := Plain.quiet (inE_quiet noEnv_quiet noq k)
theorem gE_ok (k : Nat) : EnvOk Try.prog (Plain.env tbl (gE k)) := Plain.ok tbl_ok (inE_ok (qt := qt) mixed tbl_ok inl_ok noq noEnv_ok noEnv_quiet k)
theorem cE_ok (k : Nat) : CallOk (Plain.env tbl (gE k)) (cE k) := callS_ok k
def hn4x (ao ac am : Option Addr) (n nc nm co cc cm : Nat) (at_ i : Int) (g b : Bool) (H J : Heap) : Hs := (.no (.con (.con (.con .nil))))
theorem tree4x (ao ac am : Option Addr) (n nc nm co cc cm : Nat) (at_ i : Int) (g b : Bool) (H J : Heap) : pieceS tbl (gE 2) (cE 2) 100 (fun i => exL i body4_0 || inL [4] i) body4_0 (hn4x ao ac am n nc nm co cc cm at_ i g b H J) (frS 106 [(1, (.raw (.slice am nm cm))), (4, (sB false)), (5, (.raw (.slice ao n co))), (6, (.ptr 1 0)), (7, (sI at_)), (8, (sB g)), (9, (sI i))]) [.seg H, .blk .fix [(.raw (.slice ac nc cc)), (sB b)], .seg J] =
(.req (!(decide (i < (nm : Int)))) (.ret (.exit 0) (frS 106 [(1, (.raw (.slice am nm cm))), (4, (sB false)), (5, (.raw (.slice ao n co))), (6, (.ptr 1 0)), (7, (sI at_)), (8, (sB g)), (9, (sI i))]) [.seg H, .blk .fix [(.raw (.slice ac nc cc)), (sB b)], .seg J])) := by kernel_rfl
def hn4y (ao ac am : Option Addr) (n nc nm co cc cm : Nat) (at_ i : Int) (g b : Bool) (H J : Heap) : Hs := (.yes (.con (.con (.no .nil))))
theorem tree4y (ao ac am : Option Addr) (n nc nm co cc cm : Nat) (at_ i : Int) (g b : Bool) (H J : Heap) : pieceS tbl (gE 2) (cE 2) 100 (fun i => exL i body4_0 || inL [4] i) body4_0 (hn4y ao ac am n nc nm co cc cm at_ i g b H J) (frS 106 [(1, (.raw (.slice am nm cm))), (4, (sB false)), (5, (.raw (.slice ao n co))), (6, (.ptr 1 0)), (7, (sI at_)), (8, (sB g)), (9, (sI i))]) [.seg H, .blk .fix [(.raw (.slice ac nc cc)), (sB b)], .seg J] =
(.req (decide (i < (nm : Int))) (.req (!(decide (i < 30))) (.ret (.exit 0) (frS 106 [(1, (.raw (.slice am nm cm))), (4, (sB false)), (5, (.raw (.slice ao n co))), (6, (.ptr 1 0)), (7, (sI at_)), (8, (sB g)), (9, (sI i))]) [.seg H, .blk .fix [(.raw (.slice ac nc cc)), (sB b)], .seg J]))) := by kernel_rfl
def hn4be (ao ac am ad : Option Addr) (n nc nm nd co cc cm cd : Nat) (at_ i z mo : Int) (b1 o1 b2 o2 b3 o3 : Nat) (H J : Heap) : Hs := (.yes (.con (.con (.yes (.con (.con (.con (.con (.con (.pur 22000042 (.pointer (some ⟨b3, o3, none⟩)) (.bas 7000043 (.int .i64 mo) (.yes (.con (.con (.con (.con (.con (.con (.con (.con (.con (.con (.con (.con (.con (.con (.con (.con (.con (.con (.con (.con (.con (.con (.con (.con (.con (.con (.con (.con (.con (.con (.con .nil)))))))))))))))))))))))))))))))))))))))))))
theorem tree4be (ao ac am ad : Option Addr) (n nc nm nd co cc cm cd : Nat) (at_ i z mo : Int) (b1 o1 b2 o2 b3 o3 : Nat) (H J : Heap) : pieceS tbl (gE 2) (cE 2) 100 (fun i => exL i body4_0 || inL [4] i) body4_0 (hn4be ao ac am ad n nc nm nd co cc cm cd at_ i z mo b1 o1 b2 o2 b3 o3 H J) (frS 106 [(1, (.raw (.slice am nm cm))), (4, (sB false)), (5, (.raw (.slice ao n co))), (6, (.ptr 1 0)), (7, (sI at_)), (8, (sB false)), (9, (sI i))]) [.seg H, .blk .fix [(.raw (.slice ac nc cc)), (sB true)], .seg J] =
(.req (decide (i < (nm : Int))) (.req (decide (i < 30)) (.claim (opA (Plain.env tbl (gE 2)) (.iadr 1 none (.const (.slice am nm cm)) (.const (.int .i64 i))) [] [] = some ((.pointer (some ⟨b3, o3, none⟩)), []))
 (.claim (opA (Plain.env tbl (gE 2)) (.load (.const (.pointer (some ⟨b3, o3, none⟩))) none) [] H = some ((.int .i64 mo), H))
 (.req ((andI .i64 mo 1) == 0) (.ret .normal (frS 106 [(1, (.raw (.slice am nm cm))), (4, (sB false)), (5, (.raw (.slice ao n co))), (6, (.ptr 1 0)), (7, (sI at_)), (8, (sB false)), (9, (sI (IntKind.wrap .i64 (i + 1))))]) [.seg H, .blk .fix [(.raw (.slice ac nc cc)), (sB true)], .seg J])))))) := by kernel_rfl
def hn4bo (ao ac am ad : Option Addr) (n nc nm nd co cc cm cd : Nat) (at_ i z mo : Int) (b1 o1 b2 o2 b3 o3 : Nat) (H J : Heap) : Hs := (.yes (.con (.con (.yes (.con (.con (.con (.con (.con (.pur 22000042 (.pointer (some ⟨b3, o3, none⟩)) (.bas 7000043 (.int .i64 mo) (.no (.con (.con (.con (.con (.con (.con (.con (.con (.con (.con (.con (.con (.con (.con (.con (.con (.con (.pur 22000081 (.pointer (some ⟨b3, o3, none⟩)) (.bas 7000082 (.int .i64 mo) (.con (.con (.con (.con (.con (.con (.con (.con (.con (.con (.con (.con (.sym (.con (.con (.con (.con (.con (.con (.con (.con (.con (.con (.con (.con (.con (.con (.con (.con (.con (.con (.con (.con (.con (.con .nil)))))))))))))))))))))) (.con (.con (.con (.con (.con (.con (.con (.con (.con (.con (.con (.con (.con (.con (.con (.con (.con (.con (.con (.con (.con (.con .nil))))))))))))))))))))))))))))))))))))))))))))))))))))))))))))))))))
theorem tree4bo (ao ac am ad : Option Addr) (n nc nm nd co cc cm cd : Nat) (at_ i z mo : Int) (b1 o1 b2 o2 b3 o3 : Nat) (H J : Heap) : pieceS tbl (gE 2) (cE 2) 100 (fun i => exL i body4_0 || inL [4] i) body4_0 (hn4bo ao ac am ad n nc nm nd co cc cm cd at_ i z mo b1 o1 b2 o2 b3 o3 H J) (frS 106 [(1, (.raw (.slice am nm cm))), (4, (sB false)), (5, (.raw (.slice ao n co))), (6, (.ptr 1 0)), (7, (sI at_)), (8, (sB false)), (9, (sI i))]) [.seg H, .blk .fix [(.raw (.slice ac nc cc)), (sB true)], .seg J] =
(.req (decide (i < (nm : Int))) (.req (decide (i < 30)) (.claim (opA (Plain.env tbl (gE 2)) (.iadr 1 none (.const (.slice am nm cm)) (.const (.int .i64 i))) [] [] = some ((.pointer (some ⟨b3, o3, none⟩)), []))
 (.claim (opA (Plain.env tbl (gE 2)) (.load (.const (.pointer (some ⟨b3, o3, none⟩))) none) [] H = some ((.int .i64 mo), H))
 (.req (!((andI .i64 mo 1) == 0)) (.req true (.claim (opA (Plain.env tbl (gE 2)) (.iadr 1 none (.const (.slice am nm cm)) (.const (.int .i64 i))) [] [] = some ((.pointer (some ⟨b3, o3, none⟩)), []))
 (.claim (opA (Plain.env tbl (gE 2)) (.load (.const (.pointer (some ⟨b3, o3, none⟩))) none) [] H = some ((.int .i64 mo), H))
 (.br (decide (0 > mo))
 (.ret .normal (frS 106 [(1, (.raw (.slice am nm cm))), (4, (sB false)), (5, (.raw (.slice ao n co))), (6, (.ptr 1 0)), (7, (sI at_)), (8, (sB false)), (9, (sI (IntKind.wrap .i64 (i + 1))))]) [.seg H, .blk .fix [(.raw (.slice ac nc cc)), (sB true)], .seg J])
 (.ret .normal (frS 106 [(1, (.raw (.slice am nm cm))), (4, (sB false)), (5, (.raw (.slice ao n co))), (6, (.ptr 1 0)), (7, (sI at_)), (8, (sB false)), (9, (sI (IntKind.wrap .i64 (i + 1))))]) [.seg H, .blk .fix [(.raw (.slice ac nc cc)), (sB true)], .seg J])))))))))) := by kernel_rfl
def hn4ee (ao ac am ad : Option Addr) (n nc nm nd co cc cm cd : Nat) (at_ i z mo : Int) (b1 o1 b2 o2 b3 o3 : Nat) (H J : Heap) : Hs := (.yes (.con (.con (.yes (.con (.con (.con (.con (.con (.pur 22000042 (.pointer (some ⟨b3, o3, none⟩)) (.bas 7000043 (.int .i64 mo) (.yes (.no (.con (.con (.con (.con (.con (.con (.con (.yes (.con (.no (.con (.con (.con (.con (.con (.con (.con (.con (.con (.con (.con (.con (.con (.con (.con (.con (.con (.con (.con (.con .nil)))))))))))))))))))))))))))))))))))))))))))
theorem tree4ee (ao ac am ad : Option Addr) (n nc nm nd co cc cm cd : Nat) (at_ i z mo : Int) (b1 o1 b2 o2 b3 o3 : Nat) (H J : Heap) : pieceS tbl (gE 2) (cE 2) 100 (fun i => exL i body4_0 || inL [4] i) body4_0 (hn4ee ao ac am ad n nc nm nd co cc cm cd at_ i z mo b1 o1 b2 o2 b3 o3 H J) (frS 106 [(1, (.raw (.slice am nm cm))), (4, (sB false)), (5, (.raw (.slice ao n co))), (6, (.ptr 1 0)), (7, (sI at_)), (8, (sB true)), (9, (sI i))]) [.seg H, .blk .fix [(.raw (.slice ac nc cc)), (sB false)], .seg J] =
(.req (decide (i < (nm : Int))) (.req (decide (i < 30)) (.claim (opA (Plain.env tbl (gE 2)) (.iadr 1 none (.const (.slice am nm cm)) (.const (.int .i64 i))) [] [] = some ((.pointer (some ⟨b3, o3, none⟩)), []))
 (.claim (opA (Plain.env tbl (gE 2)) (.load (.const (.pointer (some ⟨b3, o3, none⟩))) none) [] H = some ((.int .i64 mo), H))
 (.req ((andI .i64 mo 1) == 0) (.req (!(decide (at_ < (n : Int)))) (.req ((nc : Int) == 0) (.req (!(decide (at_ < (n : Int)))) (.ret .normal (frS 106 [(1, (.raw (.slice am nm cm))), (4, (sB false)), (5, (.raw (.slice ao n co))), (6, (.ptr 1 0)), (7, (sI at_)), (8, (sB false)), (9, (sI (IntKind.wrap .i64 (i + 1))))]) [.seg H, .blk .fix [(.raw (.slice ac nc cc)), (sB true)], .seg J]))))))))) := by kernel_rfl
def hn4eo (ao ac am ad : Option Addr) (n nc nm nd co cc cm cd : Nat) (at_ i z mo : Int) (b1 o1 b2 o2 b3 o3 : Nat) (H J : Heap) : Hs := (.yes (.con (.con (.yes (.con (.con (.con (.con (.con (.pur 22000042 (.pointer (some ⟨b3, o3, none⟩)) (.bas 7000043 (.int .i64 mo) (.no (.no (.con (.con (.con (.con (.con (.con (.con (.con (.con (.con (.con (.con (.con (.con (.con (.con (.pur 22000081 (.pointer (some ⟨b3, o3, none⟩)) (.bas 7000082 (.int .i64 mo) (.con (.con (.con (.con (.con (.con (.con (.yes (.con (.con (.con (.con (.sym (.con (.con (.con (.con (.con (.con (.con (.con (.con (.con (.con (.con (.con (.con (.con (.con (.con (.con (.con (.con (.con (.con .nil)))))))))))))))))))))) (.con (.con (.con (.con (.con (.con (.con (.con (.con (.con (.con (.con (.con (.con (.con (.con (.con (.con (.con (.con (.con (.con .nil))))))))))))))))))))))))))))))))))))))))))))))))))))))))))))))))))
theorem tree4eo (ao ac am ad : Option Addr) (n nc nm nd co cc cm cd : Nat) (at_ i z mo : Int) (b1 o1 b2 o2 b3 o3 : Nat) (H J : Heap) : pieceS tbl (gE 2) (cE 2) 100 (fun i => exL i body4_0 || inL [4] i) body4_0 (hn4eo ao ac am ad n nc nm nd co cc cm cd at_ i z mo b1 o1 b2 o2 b3 o3 H J) (frS 106 [(1, (.raw (.slice am nm cm))), (4, (sB false)), (5, (.raw (.slice ao n co))), (6, (.ptr 1 0)), (7, (sI at_)), (8, (sB true)), (9, (sI i))]) [.seg H, .blk .fix [(.raw (.slice ac nc cc)), (sB false)], .seg J] =
(.req (decide (i < (nm : Int))) (.req (decide (i < 30)) (.claim (opA (Plain.env tbl (gE 2)) (.iadr 1 none (.const (.slice am nm cm)) (.const (.int .i64 i))) [] [] = some ((.pointer (some ⟨b3, o3, none⟩)), []))
 (.claim (opA (Plain.env tbl (gE 2)) (.load (.const (.pointer (some ⟨b3, o3, none⟩))) none) [] H = some ((.int .i64 mo), H))
 (.req (!((andI .i64 mo 1) == 0)) (.req true (.req (!(decide (at_ < (n : Int)))) (.claim (opA (Plain.env tbl (gE 2)) (.iadr 1 none (.const (.slice am nm cm)) (.const (.int .i64 i))) [] [] = some ((.pointer (some ⟨b3, o3, none⟩)), []))
 (.claim (opA (Plain.env tbl (gE 2)) (.load (.const (.pointer (some ⟨b3, o3, none⟩))) none) [] H = some ((.int .i64 mo), H))
 (.req ((nc : Int) == 0) (.br (decide (0 > mo))
 (.ret .normal (frS 106 [(1, (.raw (.slice am nm cm))), (4, (sB false)), (5, (.raw (.slice ao n co))), (6, (.ptr 1 0)), (7, (sI at_)), (8, (sB false)), (9, (sI (IntKind.wrap .i64 (i + 1))))]) [.seg H, .blk .fix [(.raw (.slice ac nc cc)), (sB true)], .seg J])
 (.ret .normal (frS 106 [(1, (.raw (.slice am nm cm))), (4, (sB false)), (5, (.raw (.slice ao n co))), (6, (.ptr 1 0)), (7, (sI at_)), (8, (sB false)), (9, (sI (IntKind.wrap .i64 (i + 1))))]) [.seg H, .blk .fix [(.raw (.slice ac nc cc)), (sB true)], .seg J])))))))))))) := by kernel_rfl
def hn4le (ao ac am ad : Option Addr) (n nc nm nd co cc cm cd : Nat) (at_ i z mo : Int) (b1 o1 b2 o2 b3 o3 : Nat) (H J : Heap) : Hs := (.yes (.con (.con (.yes (.con (.con (.con (.con (.con (.pur 22000042 (.pointer (some ⟨b3, o3, none⟩)) (.bas 7000043 (.int .i64 mo) (.yes (.yes (.pur 22000049 (.pointer (some ⟨b2, o2, none⟩)) (.bas 7000050 (.int .i64 z) (.con (.con (.con (.con (.con (.con (.con (.no (.pur 22000023 (.pointer (some ⟨b1, o1, none⟩)) (.bas 7000024 (.int .i64 z) (.bas 17000030 (.slice ad nd cd) (.no (.yes (.con (.con (.con (.con (.con (.con (.con (.con (.con (.con (.con (.con (.con (.con (.con (.con (.con (.con (.con (.no .nil))))))))))))))))))))))))))))))))))))))))))))))))
theorem tree4le (ao ac am ad : Option Addr) (n nc nm nd co cc cm cd : Nat) (at_ i z mo : Int) (b1 o1 b2 o2 b3 o3 : Nat) (H J : Heap) : pieceS tbl (gE 2) (cE 2) 100 (fun i => exL i body4_0 || inL [4] i) body4_0 (hn4le ao ac am ad n nc nm nd co cc cm cd at_ i z mo b1 o1 b2 o2 b3 o3 H J) (frS 106 [(1, (.raw (.slice am nm cm))), (4, (sB false)), (5, (.raw (.slice ao n co))), (6, (.ptr 1 0)), (7, (sI at_)), (8, (sB true)), (9, (sI i))]) [.seg H, .blk .fix [(.raw (.slice ac nc cc)), (sB false)], .seg J] =
(.req (decide (i < (nm : Int))) (.req (decide (i < 30)) (.claim (opA (Plain.env tbl (gE 2)) (.iadr 1 none (.const (.slice am nm cm)) (.const (.int .i64 i))) [] [] = some ((.pointer (some ⟨b3, o3, none⟩)), []))
 (.claim (opA (Plain.env tbl (gE 2)) (.load (.const (.pointer (some ⟨b3, o3, none⟩))) none) [] H = some ((.int .i64 mo), H))
 (.req ((andI .i64 mo 1) == 0) (.req (decide (at_ < (n : Int))) (.claim (opA (Plain.env tbl (gE 2)) (.iadr 1 none (.const (.slice ao n co)) (.const (.int .i64 at_))) [] [] = some ((.pointer (some ⟨b2, o2, none⟩)), []))
 (.claim (opA (Plain.env tbl (gE 2)) (.load (.const (.pointer (some ⟨b2, o2, none⟩))) none) [] H = some ((.int .i64 z), H))
 (.req (!((nc : Int) == 0)) (.claim (opA (Plain.env tbl (gE 1)) (.iadr 1 none (.const (.slice ac nc cc)) (.const (.int .i64 0))) [] [] = some ((.pointer (some ⟨b1, o1, none⟩)), []))
 (.claim (opA (Plain.env tbl (gE 1)) (.load (.const (.pointer (some ⟨b1, o1, none⟩))) none) [] H = some ((.int .i64 z), H))
 (.claim (opA (Plain.env tbl (gE 1)) (.slice 1 (.const (.slice ac nc cc)) (some (.const (.int .i64 1))) none none) [] H = some ((.slice ad nd cd), H))
 (.req (!(z != z)) (.req (decide (at_ < (n : Int))) (.req (!(!(((nd : Int) == 0) == ((IntKind.wrap .i64 (at_ + 1)) == (n : Int))))) (.ret .normal (frS 106 [(1, (.raw (.slice am nm cm))), (4, (sB false)), (5, (.raw (.slice ao n co))), (6, (.ptr 1 0)), (7, (sI (IntKind.wrap .i64 (at_ + 1)))), (8, (sB true)), (9, (sI (IntKind.wrap .i64 (i + 1))))]) [.seg H, .blk .fix [(.raw (.slice ad nd cd)), (sB false)], .seg J])))))))))))))))) := by kernel_rfl
def hn4li (ao ac am ad : Option Addr) (n nc nm nd co cc cm cd : Nat) (at_ i z mo : Int) (b1 o1 b2 o2 b3 o3 : Nat) (H J : Heap) : Hs := (.yes (.con (.con (.yes (.con (.con (.con (.con (.con (.pur 22000042 (.pointer (some ⟨b3, o3, none⟩)) (.bas 7000043 (.int .i64 mo) (.no (.yes (.con (.con (.pur 22000059 (.pointer (some ⟨b2, o2, none⟩)) (.con (.bas 7000060 (.int .i64 z) (.con (.con (.yes (.con (.con (.pur 22000066 (.pointer (some ⟨b2, o2, none⟩)) (.con (.bas 7000067 (.int .i64 z) (.con (.con (.con (.pur 22000070 (.pointer (some ⟨b3, o3, none⟩)) (.con (.bas 7000071 (.int .i64 mo) (.con (.con (.yes (.pur 22000076 (.pointer (some ⟨b2, o2, none⟩)) (.bas 7000077 (.int .i64 z) (.pur 22000081 (.pointer (some ⟨b3, o3, none⟩)) (.bas 7000082 (.int .i64 mo) (.con (.con (.con (.con (.con (.con (.con (.no (.pur 22000023 (.pointer (some ⟨b1, o1, none⟩)) (.bas 7000024 (.int .i64 z) (.bas 17000030 (.slice ad nd cd) (.no (.con (.con (.con (.no (.no (.yes (.con (.con (.con (.con (.con (.con (.con (.con (.con (.con (.con (.con (.con (.con (.con (.con (.con (.con (.con (.no .nil)))))))))))))))))))))))))))))))))))))))))))))))))))))))))))))))))))))))))))))
theorem tree4li (ao ac am ad : Option Addr) (n nc nm nd co cc cm cd : Nat) (at_ i z mo : Int) (b1 o1 b2 o2 b3 o3 : Nat) (H J : Heap) : pieceS tbl (gE 2) (cE 2) 100 (fun i => exL i body4_0 || inL [4] i) body4_0 (hn4li ao ac am ad n nc nm nd co cc cm cd at_ i z mo b1 o1 b2 o2 b3 o3 H J) (frS 106 [(1, (.raw (.slice am nm cm))), (4, (sB false)), (5, (.raw (.slice ao n co))), (6, (.ptr 1 0)), (7, (sI at_)), (8, (sB true)), (9, (sI i))]) [.seg H, .blk .fix [(.raw (.slice ac nc cc)), (sB false)], .seg J] =
(.req (decide (i < (nm : Int))) (.req (decide (i < 30)) (.claim (opA (Plain.env tbl (gE 2)) (.iadr 1 none (.const (.slice am nm cm)) (.const (.int .i64 i))) [] [] = some ((.pointer (some ⟨b3, o3, none⟩)), []))
 (.claim (opA (Plain.env tbl (gE 2)) (.load (.const (.pointer (some ⟨b3, o3, none⟩))) none) [] H = some ((.int .i64 mo), H))
 (.req (!((andI .i64 mo 1) == 0)) (.req true (.req (decide (at_ < (n : Int))) (.claim (opA (Plain.env tbl (gE 2)) (.iadr 1 none (.const (.slice ao n co)) (.const (.int .i64 at_))) [] [] = some ((.pointer (some ⟨b2, o2, none⟩)), []))
 (.claim (opA (Plain.env tbl (gE 2)) (.load (.const (.pointer (some ⟨b2, o2, none⟩))) none) [] H = some ((.int .i64 z), H))
 (.req (decide (z ≥ 0)) (.claim (opA (Plain.env tbl (gE 2)) (.iadr 1 none (.const (.slice ao n co)) (.const (.int .i64 at_))) [] [] = some ((.pointer (some ⟨b2, o2, none⟩)), []))
 (.claim (opA (Plain.env tbl (gE 2)) (.load (.const (.pointer (some ⟨b2, o2, none⟩))) none) [] H = some ((.int .i64 z), H))
 (.claim (opA (Plain.env tbl (gE 2)) (.iadr 1 none (.const (.slice am nm cm)) (.const (.int .i64 i))) [] [] = some ((.pointer (some ⟨b3, o3, none⟩)), []))
 (.claim (opA (Plain.env tbl (gE 2)) (.load (.const (.pointer (some ⟨b3, o3, none⟩))) none) [] H = some ((.int .i64 mo), H))
 (.req (decide (z ≤ mo)) (.claim (opA (Plain.env tbl (gE 2)) (.iadr 1 none (.const (.slice ao n co)) (.const (.int .i64 at_))) [] [] = some ((.pointer (some ⟨b2, o2, none⟩)), []))
 (.claim (opA (Plain.env tbl (gE 2)) (.load (.const (.pointer (some ⟨b2, o2, none⟩))) none) [] H = some ((.int .i64 z), H))
 (.claim (opA (Plain.env tbl (gE 2)) (.iadr 1 none (.const (.slice am nm cm)) (.const (.int .i64 i))) [] [] = some ((.pointer (some ⟨b3, o3, none⟩)), []))
 (.claim (opA (Plain.env tbl (gE 2)) (.load (.const (.pointer (some ⟨b3, o3, none⟩))) none) [] H = some ((.int .i64 mo), H))
 (.req (!((nc : Int) == 0)) (.claim (opA (Plain.env tbl (gE 0)) (.iadr 1 none (.const (.slice ac nc cc)) (.const (.int .i64 0))) [] [] = some ((.pointer (some ⟨b1, o1, none⟩)), []))
 (.claim (opA (Plain.env tbl (gE 0)) (.load (.const (.pointer (some ⟨b1, o1, none⟩))) none) [] H = some ((.int .i64 z), H))
 (.claim (opA (Plain.env tbl (gE 0)) (.slice 1 (.const (.slice ac nc cc)) (some (.const (.int .i64 1))) none none) [] H = some ((.slice ad nd cd), H))
 (.req (!(decide (z < 0))) (.req (!(decide (z > mo))) (.req (!(z != z)) (.req (decide (at_ < (n : Int))) (.req (!(!(((nd : Int) == 0) == ((IntKind.wrap .i64 (at_ + 1)) == (n : Int))))) (.ret .normal (frS 106 [(1, (.raw (.slice am nm cm))), (4, (sB false)), (5, (.raw (.slice ao n co))), (6, (.ptr 1 0)), (7, (sI (IntKind.wrap .i64 (at_ + 1)))), (8, (sB true)), (9, (sI (IntKind.wrap .i64 (i + 1))))]) [.seg H, .blk .fix [(.raw (.slice ad nd cd)), (sB false)], .seg J]))))))))))))))))))))))))))))) := by kernel_rfl
def hn4lo (ao ac am ad : Option Addr) (n nc nm nd co cc cm cd : Nat) (at_ i z mo : Int) (b1 o1 b2 o2 b3 o3 : Nat) (H J : Heap) : Hs := (.yes (.con (.con (.yes (.con (.con (.con (.con (.con (.pur 22000042 (.pointer (some ⟨b3, o3, none⟩)) (.bas 7000043 (.int .i64 mo) (.no (.yes (.con (.con (.pur 22000059 (.pointer (some ⟨b2, o2, none⟩)) (.con (.bas 7000060 (.int .i64 z) (.con (.con (.no (.con (.con (.con (.con (.con (.con (.con (.con (.con (.con (.pur 22000081 (.pointer (some ⟨b3, o3, none⟩)) (.bas 7000082 (.int .i64 mo) (.con (.con (.con (.con (.con (.con (.con (.no (.pur 22000023 (.pointer (some ⟨b1, o1, none⟩)) (.bas 7000024 (.int .i64 z) (.bas 17000030 (.slice ad nd cd) (.yes (.con (.con (.con (.con (.con (.con (.con (.con (.con (.con (.con (.con (.con (.con (.con (.con (.con (.con (.con (.con (.con (.con (.con (.con (.con (.con .nil)))))))))))))))))))))))))))))))))))))))))))))))))))))))))))))))))))))))
theorem tree4lo (ao ac am ad : Option Addr) (n nc nm nd co cc cm cd : Nat) (at_ i z mo : Int) (b1 o1 b2 o2 b3 o3 : Nat) (H J : Heap) : pieceS tbl (gE 2) (cE 2) 100 (fun i => exL i body4_0 || inL [4] i) body4_0 (hn4lo ao ac am ad n nc nm nd co cc cm cd at_ i z mo b1 o1 b2 o2 b3 o3 H J) (frS 106 [(1, (.raw (.slice am nm cm))), (4, (sB false)), (5, (.raw (.slice ao n co))), (6, (.ptr 1 0)), (7, (sI at_)), (8, (sB true)), (9, (sI i))]) [.seg H, .blk .fix [(.raw (.slice ac nc cc)), (sB false)], .seg J] =
(.req (decide (i < (nm : Int))) (.req (decide (i < 30)) (.claim (opA (Plain.env tbl (gE 2)) (.iadr 1 none (.const (.slice am nm cm)) (.const (.int .i64 i))) [] [] = some ((.pointer (some ⟨b3, o3, none⟩)), []))
 (.claim (opA (Plain.env tbl (gE 2)) (.load (.const (.pointer (some ⟨b3, o3, none⟩))) none) [] H = some ((.int .i64 mo), H))
 (.req (!((andI .i64 mo 1) == 0)) (.req true (.req (decide (at_ < (n : Int))) (.claim (opA (Plain.env tbl (gE 2)) (.iadr 1 none (.const (.slice ao n co)) (.const (.int .i64 at_))) [] [] = some ((.pointer (some ⟨b2, o2, none⟩)), []))
 (.claim (opA (Plain.env tbl (gE 2)) (.load (.const (.pointer (some ⟨b2, o2, none⟩))) none) [] H = some ((.int .i64 z), H))
 (.req (!(decide (z ≥ 0))) (.claim (opA (Plain.env tbl (gE 2)) (.iadr 1 none (.const (.slice am nm cm)) (.const (.int .i64 i))) [] [] = some ((.pointer (some ⟨b3, o3, none⟩)), []))
 (.claim (opA (Plain.env tbl (gE 2)) (.load (.const (.pointer (some ⟨b3, o3, none⟩))) none) [] H = some ((.int .i64 mo), H))
 (.req (!((nc : Int) == 0)) (.claim (opA (Plain.env tbl (gE 0)) (.iadr 1 none (.const (.slice ac nc cc)) (.const (.int .i64 0))) [] [] = some ((.pointer (some ⟨b1, o1, none⟩)), []))
 (.claim (opA (Plain.env tbl (gE 0)) (.load (.const (.pointer (some ⟨b1, o1, none⟩))) none) [] H = some ((.int .i64 z), H))
 (.claim (opA (Plain.env tbl (gE 0)) (.slice 1 (.const (.slice ac nc cc)) (some (.const (.int .i64 1))) none none) [] H = some ((.slice ad nd cd), H))
 (.req (decide (z < 0)) (.ret .normal (frS 106 [(1, (.raw (.slice am nm cm))), (4, (sB false)), (5, (.raw (.slice ao n co))), (6, (.ptr 1 0)), (7, (sI at_)), (8, (sB false)), (9, (sI (IntKind.wrap .i64 (i + 1))))]) [.seg H, .blk .fix [(.raw (.slice ad nd cd)), (sB true)], .seg J])))))))))))))))))) := by kernel_rfl
def hn4lp (ao ac am ad : Option Addr) (n nc nm nd co cc cm cd : Nat) (at_ i z mo : Int) (b1 o1 b2 o2 b3 o3 : Nat) (H J : Heap) : Hs := (.yes (.con (.con (.yes (.con (.con (.con (.con (.con (.pur 22000042 (.pointer (some ⟨b3, o3, none⟩)) (.bas 7000043 (.int .i64 mo) (.no (.yes (.con (.con (.pur 22000059 (.pointer (some ⟨b2, o2, none⟩)) (.con (.bas 7000060 (.int .i64 z) (.con (.con (.yes (.con (.con (.pur 22000066 (.pointer (some ⟨b2, o2, none⟩)) (.con (.bas 7000067 (.int .i64 z) (.con (.con (.con (.pur 22000070 (.pointer (some ⟨b3, o3, none⟩)) (.con (.bas 7000071 (.int .i64 mo) (.con (.con (.no (.pur 22000081 (.pointer (some ⟨b3, o3, none⟩)) (.bas 7000082 (.int .i64 mo) (.con (.con (.con (.con (.con (.con (.con (.no (.pur 22000023 (.pointer (some ⟨b1, o1, none⟩)) (.bas 7000024 (.int .i64 z) (.bas 17000030 (.slice ad nd cd) (.no (.con (.con (.con (.yes (.con (.con (.con (.con (.con (.con (.con (.con (.con (.con (.con (.con (.con (.con (.con (.con (.con (.con (.con (.con (.con (.con .nil)))))))))))))))))))))))))))))))))))))))))))))))))))))))))))))))))))))))))))
theorem tree4lp (ao ac am ad : Option Addr) (n nc nm nd co cc cm cd : Nat) (at_ i z mo : Int) (b1 o1 b2 o2 b3 o3 : Nat) (H J : Heap) : pieceS tbl (gE 2) (cE 2) 100 (fun i => exL i body4_0 || inL [4] i) body4_0 (hn4lp ao ac am ad n nc nm nd co cc cm cd at_ i z mo b1 o1 b2 o2 b3 o3 H J) (frS 106 [(1, (.raw (.slice am nm cm))), (4, (sB false)), (5, (.raw (.slice ao n co))), (6, (.ptr 1 0)), (7, (sI at_)), (8, (sB true)), (9, (sI i))]) [.seg H, .blk .fix [(.raw (.slice ac nc cc)), (sB false)], .seg J] =
(.req (decide (i < (nm : Int))) (.req (decide (i < 30)) (.claim (opA (Plain.env tbl (gE 2)) (.iadr 1 none (.const (.slice am nm cm)) (.const (.int .i64 i))) [] [] = some ((.pointer (some ⟨b3, o3, none⟩)), []))
 (.claim (opA (Plain.env tbl (gE 2)) (.load (.const (.pointer (some ⟨b3, o3, none⟩))) none) [] H = some ((.int .i64 mo), H))
 (.req (!((andI .i64 mo 1) == 0)) (.req true (.req (decide (at_ < (n : Int))) (.claim (opA (Plain.env tbl (gE 2)) (.iadr 1 none (.const (.slice ao n co)) (.const (.int .i64 at_))) [] [] = some ((.pointer (some ⟨b2, o2, none⟩)), []))
 (.claim (opA (Plain.env tbl (gE 2)) (.load (.const (.pointer (some ⟨b2, o2, none⟩))) none) [] H = some ((.int .i64 z), H))
 (.req (decide (z ≥ 0)) (.claim (opA (Plain.env tbl (gE 2)) (.iadr 1 none (.const (.slice ao n co)) (.const (.int .i64 at_))) [] [] = some ((.pointer (some ⟨b2, o2, none⟩)), []))
 (.claim (opA (Plain.env tbl (gE 2)) (.load (.const (.pointer (some ⟨b2, o2, none⟩))) none) [] H = some ((.int .i64 z), H))
 (.claim (opA (Plain.env tbl (gE 2)) (.iadr 1 none (.const (.slice am nm cm)) (.const (.int .i64 i))) [] [] = some ((.pointer (some ⟨b3, o3, none⟩)), []))
 (.claim (opA (Plain.env tbl (gE 2)) (.load (.const (.pointer (some ⟨b3, o3, none⟩))) none) [] H = some ((.int .i64 mo), H))
 (.req (!(decide (z ≤ mo))) (.claim (opA (Plain.env tbl (gE 2)) (.iadr 1 none (.const (.slice am nm cm)) (.const (.int .i64 i))) [] [] = some ((.pointer (some ⟨b3, o3, none⟩)), []))
 (.claim (opA (Plain.env tbl (gE 2)) (.load (.const (.pointer (some ⟨b3, o3, none⟩))) none) [] H = some ((.int .i64 mo), H))
 (.req (!((nc : Int) == 0)) (.claim (opA (Plain.env tbl (gE 0)) (.iadr 1 none (.const (.slice ac nc cc)) (.const (.int .i64 0))) [] [] = some ((.pointer (some ⟨b1, o1, none⟩)), []))
 (.claim (opA (Plain.env tbl (gE 0)) (.load (.const (.pointer (some ⟨b1, o1, none⟩))) none) [] H = some ((.int .i64 z), H))
 (.claim (opA (Plain.env tbl (gE 0)) (.slice 1 (.const (.slice ac nc cc)) (some (.const (.int .i64 1))) none none) [] H = some ((.slice ad nd cd), H))
 (.req (!(decide (z < 0))) (.req (decide (z > mo)) (.ret .normal (frS 106 [(1, (.raw (.slice am nm cm))), (4, (sB false)), (5, (.raw (.slice ao n co))), (6, (.ptr 1 0)), (7, (sI at_)), (8, (sB false)), (9, (sI (IntKind.wrap .i64 (i + 1))))]) [.seg H, .blk .fix [(.raw (.slice ad nd cd)), (sB true)], .seg J])))))))))))))))))))))))) := by kernel_rfl
def hn4 (al am a1 ac : Option Addr) (ao : Addr) (nl nm n1 n nc cl cm c1 co cc : Nat) (k : Int) (H X Y : Heap) (bx : Option Blk) : Hs := (.pur 32000016 (.int .i64 k) (.bas 17000017 (.slice a1 n1 c1) (.use 30000018 (.raw (.slice (some ao) n co)) ⟨[], [.seg X]⟩ (.con (.use 30000007 (.raw (.slice ac nc cc)) ⟨[], [.seg Y]⟩ (.con (.lp 0 [4] (frS 106 [(4, (sB false))]) ⟨[(5, .raw bx)], []⟩ .nil)))))))
theorem tree4 (al am a1 ac : Option Addr) (ao : Addr) (nl nm n1 n nc cl cm c1 co cc : Nat) (k : Int) (H X Y : Heap) (bx : Option Blk) : fnS tbl (gE 2) (cE 2) 100 il4 (hn4 al am a1 ac ao nl nm n1 n nc cl cm c1 co cc k H X Y bx) [(.raw (.slice al nl cl)), (.raw (.slice am nm cm))] [.seg H] =
(.claim (opA (Plain.env tbl (gE 2)) (.mn (.const (.int .i64 (nl : Int))) (.const (.int .i64 20))) [] [] = some ((.int .i64 k), []))
 (.claim (opA (Plain.env tbl (gE 2)) (.slice 1 (.const (.slice al nl cl)) none (some (.const (.int .i64 k))) none) [] H = some ((.slice a1 n1 c1), H))
 (.claim (opA (Plain.env tbl (gE 2)) (.append 1 8 (.const (denV (ofs [.seg H, .blk .fix []]) (.sl 1 0 0 0))) (.const (.slice a1 n1 c1))) [] (denH [.seg H, .blk .fix []]) = some ((.slice (some ao) n co), denH [.seg H, .blk .fix [], .seg X]))
 (.claim (opA (Plain.env tbl (gE 0)) (.append 1 8 (.const (denV (ofs [.seg H, .blk .fix [], .seg X, .blk .fix []]) (.sl 3 0 0 0))) (.const (.slice (some ao) n co))) [] (denH [.seg H, .blk .fix [], .seg X, .blk .fix []]) = some ((.slice ac nc cc), denH [.seg H, .blk .fix [], .seg X, .blk .fix [], .seg Y]))
 (.claim (Wp (Plain.env tbl (gE 2)) (inL [4]) (.block 0 (.loop body4_0)) (denF [.seg H, .blk .fix [], .seg X, .blk .fix [], .seg Y, .blk .fix [(.raw (.slice ac nc cc)), (sB false)]] (frS 106 [(1, (.raw (.slice am nm cm))), (4, (sB false)), (5, (.raw (.slice (some ao) n co))), (6, (.ptr 5 0)), (7, (sI 0)), (8, (sB true)), (9, (sI 0))])) (denH [.seg H, .blk .fix [], .seg X, .blk .fix [], .seg Y, .blk .fix [(.raw (.slice ac nc cc)), (sB false)]]) fun e_ s_ h_ => e_ = .normal ∧ s_ = denF [.seg H, .blk .fix [], .seg X, .blk .fix [], .seg Y, .raw bx] (frS 106 [(4, (sB false))]) ∧ h_ = denH [.seg H, .blk .fix [], .seg X, .blk .fix [], .seg Y, .raw bx])
 (.req true (.ret .ret [(sB true)] [.seg H, .blk .fix [], .seg X, .blk .fix [], .seg Y, .raw bx]))))))) := by kernel_rfl
abbrev fr4 (vm vo : Value) (g : Bool) (at_ i : Int) : SFr := frS 106 [(1, (.raw vm)), (4, (sB false)), (5, (.raw vo)), (6, (.ptr 1 0)), (7, (sI at_)), (8, (sB g)), (9, (sI i))]
abbrev hp4 (H : Heap) (cur : Value) (b : Bool) : SH := [.seg H, .blk .fix [.raw cur, sB b], .seg []]
def inv4 (H : Heap) (most own : Value) (ms ows : List Int) (m : Nat) (t : Fr) (h : Heap) : Prop :=
  ∃ (i at_ : Nat) (g : Bool) (ac : Option Addr) (nc cc : Nat), i + m = ms.length ∧ i ≤ 30 ∧ t = denF (hp4 H (.slice ac nc cc) (!g)) (fr4 most own g at_ i) ∧ h = denH (hp4 H (.slice ac nc cc) (!g)) ∧ at_ ≤ ows.length ∧ (g = true → RowsW 1 H (.slice ac nc cc) ((ows.drop at_).map ir) ∧ nc = ows.length - at_)
theorem next4 {H : Heap} {most own : Value} {ms ows : List Int} {m i at' : Nat} {g : Bool} {ac : Option Addr} {nc cc : Nat} {a' i' : Int} (K : Post2) (hi : i + m = ms.length) (hlt : i < ms.length) (h30 : i < 30) (ea : a' = (at' : Int)) (ei : i' = IntKind.wrap .i64 ((i : Int) + 1)) (h2 : at' ≤ ows.length) (h3 : g = true → RowsW 1 H (.slice ac nc cc) ((ows.drop at').map ir) ∧ nc = ows.length - at') :
    (STr.ret .normal (fr4 most own g a' i') (hp4 H (.slice ac nc cc) (!g))).holds (onS (loopK 0 (inL [4]) (inv4 H most own ms ows) m K)) := by
  refine end_next (m - 1) (by omega) ⟨i + 1, at', g, ac, nc, cc, by omega, by omega, ?_, rfl, h2, h3⟩
  rw [ea, ei, wrap64 (by omega) (by omega)]
  rfl
theorem loop4 {H : Heap} {am ao ac : Option Addr} {cm co cc : Nat} {ms ows : List Int} (hM : RowsW 1 H (.slice am ms.length cm) (ms.map ir)) (hO : RowsW 1 H (.slice ao ows.length co) (ows.map ir)) (hC : RowsW 1 H (.slice ac ows.length cc) (ows.map ir)) (hb : ows.length ≤ 20) :
    Wp (Plain.env tbl (gE 2)) (inL [4]) (.block 0 (.loop body4_0)) (denF (hp4 H (.slice ac ows.length cc) false) (fr4 (.slice am ms.length cm) (.slice ao ows.length co) true 0 0)) (denH (hp4 H (.slice ac ows.length cc) false)) fun e t h' => e = .normal ∧ ∃ bx : Option Blk, t = denF [.seg H, .raw bx] (frS 106 [(4, (sB false))]) ∧ h' = denH [.seg H, .raw bx] := by
  refine Wp.bl (inv4 H (.slice am ms.length cm) (.slice ao ows.length co) ms ows) ?_ ms.length _ _ ⟨0, 0, true, ac, ows.length, cc, by omega, by omega, rfl, rfl, by omega, fun _ => ⟨by simpa using hC, rfl⟩⟩
  rintro m t h ⟨i, at_, g, ac, nc, cc, him, hi30, rfl, rfl, hle, hg⟩
  by_cases hi : i < ms.length
  rotate_left
  · refine Wp.tree (cE_ok 2) (tree4x ao ac am ows.length nc ms.length co cc cm at_ i g (!g) H []) ⟨rfl, rfl⟩ ⟨by simpa using hi, ?_⟩
    exact end_exit ⟨rfl, some ⟨.fix, [(.slice ac nc cc), .bool (!g)]⟩, by show denF _ _ = denF _ _; kernel_rfl, rfl⟩
  by_cases h30 : i < 30
  rotate_left
  · refine Wp.tree (cE_ok 2) (tree4y ao ac am ows.length nc ms.length co cc cm at_ i g (!g) H []) ⟨rfl, rfl⟩ ⟨by simpa using hi, by simp; omega, ?_⟩
    exact end_exit ⟨rfl, some ⟨.fix, [(.slice ac nc cc), .bool (!g)]⟩, by show denF _ _ = denF _ _; kernel_rfl, rfl⟩
  obtain ⟨mo, hmo⟩ := getE hi
  obtain ⟨b3, o3, rM⟩ := hM.rowM hmo
  cases g with
  | false =>
    by_cases hev : andI .i64 mo 1 = 0
    · refine Wp.tree (cE_ok 2) (tree4be ao ac am am ows.length nc ms.length 0 co cc cm 0 at_ i 0 mo 0 0 0 0 b3 o3 H []) ⟨rfl, rfl⟩ ⟨by simpa using hi, ⟨by simp; omega, ⟨rM.ptr _ _, ⟨rM.one _, ⟨by simpa using hev, ?_⟩⟩⟩⟩⟩
      exact next4 (g := false) _ him hi h30 rfl rfl hle (fun q => by cases q)
    · refine Wp.tree (cE_ok 2) (tree4bo ao ac am am ows.length nc ms.length 0 co cc cm 0 at_ i 0 mo 0 0 0 0 b3 o3 H []) ⟨rfl, rfl⟩ ⟨by simpa using hi, ⟨by simp; omega, ⟨rM.ptr _ _, ⟨rM.one _, ⟨by simpa using hev, ⟨rfl, ⟨rM.ptr _ _, ⟨rM.one _, ⟨fun hb0 => ?_, fun hb0 => ?_⟩⟩⟩⟩⟩⟩⟩⟩⟩
      all_goals exact next4 (g := false) _ him hi h30 rfl rfl hle (fun q => by cases q)
  | true =>
    obtain ⟨hC, hnc⟩ := hg rfl
    by_cases hat : at_ < ows.length
    rotate_left
    · by_cases hev : andI .i64 mo 1 = 0
      · refine Wp.tree (cE_ok 2) (tree4ee ao ac am am ows.length nc ms.length 0 co cc cm 0 at_ i 0 mo 0 0 0 0 b3 o3 H []) ⟨rfl, rfl⟩ ⟨by simpa using hi, ⟨by simp; omega, ⟨rM.ptr _ _, ⟨rM.one _, ⟨by simpa using hev, ⟨by simpa using hat, ⟨by simp; omega, ⟨by simpa using hat, ?_⟩⟩⟩⟩⟩⟩⟩⟩
        exact next4 (g := false) _ him hi h30 rfl rfl hle (fun q => by cases q)
      · refine Wp.tree (cE_ok 2) (tree4eo ao ac am am ows.length nc ms.length 0 co cc cm 0 at_ i 0 mo 0 0 0 0 b3 o3 H []) ⟨rfl, rfl⟩ ⟨by simpa using hi, ⟨by simp; omega, ⟨rM.ptr _ _, ⟨rM.one _, ⟨by simpa using hev, ⟨rfl, ⟨by simpa using hat, ⟨rM.ptr _ _, ⟨rM.one _, ⟨by simp; omega, ⟨fun hb0 => ?_, fun hb0 => ?_⟩⟩⟩⟩⟩⟩⟩⟩⟩⟩⟩
        all_goals exact next4 (g := false) _ him hi h30 rfl rfl hle (fun q => by cases q)
    obtain ⟨z, hz⟩ := getE hat
    obtain ⟨b2, o2, rO⟩ := hO.rowM hz
    obtain ⟨b1, o1, rC⟩ := hC.rowM (i := 0) (x := z) (by rw [List.getElem?_drop]; simpa using hz)
    obtain ⟨v2, hcut, hC2⟩ := hC.cutM (lo := 1) (hi := (ows.drop at_).length) (by simp; omega) (Nat.le_refl _) (some (.const (.int .i64 1))) none (.inr rfl) (.inl ⟨rfl, rfl⟩)
    rw [List.take_length, List.drop_drop] at hC2
    obtain ⟨ad, cd, rfl⟩ := hC2.slcM
    rw [List.length_drop] at hC2 hcut
    have wA : IntKind.wrap .i64 ((at_ : Int) + 1) = (at_ : Int) + 1 := wrap64 (by omega) (by omega)
    by_cases hev : andI .i64 mo 1 = 0
    · refine Wp.tree (cE_ok 2) (tree4le ao ac am ad ows.length nc ms.length (ows.length - (at_ + 1)) co cc cm cd at_ i z mo b1 o1 b2 o2 b3 o3 H []) ⟨rfl, rfl⟩ ⟨by simpa using hi, ⟨by simp; omega, ⟨rM.ptr _ _, ⟨rM.one _, ⟨by simpa using hev, ⟨by simpa using hat, ⟨rO.ptr _ _, ⟨rO.one _, ⟨by simp; omega, ⟨rC.ptr _ _, ⟨rC.one _, ⟨hcut _, ⟨by simp, ⟨by simpa using hat, ⟨nn_beq (by rw [wA]; omega), ?_⟩⟩⟩⟩⟩⟩⟩⟩⟩⟩⟩⟩⟩⟩⟩
      exact next4 (g := true) _ him hi h30 (at' := at_ + 1) (by rw [wA]; omega) rfl (by omega) (fun _ => ⟨hC2, rfl⟩)
    · by_cases hz0 : z ≥ 0
      · by_cases hzm : z ≤ mo
        · refine Wp.tree (cE_ok 2) (tree4li ao ac am ad ows.length nc ms.length (ows.length - (at_ + 1)) co cc cm cd at_ i z mo b1 o1 b2 o2 b3 o3 H []) ⟨rfl, rfl⟩ ⟨by simpa using hi, ⟨by simp; omega, ⟨rM.ptr _ _, ⟨rM.one _, ⟨by simpa using hev, ⟨rfl, ⟨by simpa using hat, ⟨rO.ptr _ _, ⟨rO.one _, ⟨by simp; omega, ⟨rO.ptr _ _, ⟨rO.one _, ⟨rM.ptr _ _, ⟨rM.one _, ⟨by simp; omega, ⟨rO.ptr _ _, ⟨rO.one _, ⟨rM.ptr _ _, ⟨rM.one _, ⟨by simp; omega, ⟨rC.ptr _ _, ⟨rC.one _, ⟨hcut _, ⟨by simp; omega, ⟨by simp; omega, ⟨by simp, ⟨by simpa using hat, ⟨nn_beq (by rw [wA]; omega), ?_⟩⟩⟩⟩⟩⟩⟩⟩⟩⟩⟩⟩⟩⟩⟩⟩⟩⟩⟩⟩⟩⟩⟩⟩⟩⟩⟩⟩
          exact next4 (g := true) _ him hi h30 (at' := at_ + 1) (by rw [wA]; omega) rfl (by omega) (fun _ => ⟨hC2, rfl⟩)
        · refine Wp.tree (cE_ok 2) (tree4lp ao ac am ad ows.length nc ms.length (ows.length - (at_ + 1)) co cc cm cd at_ i z mo b1 o1 b2 o2 b3 o3 H []) ⟨rfl, rfl⟩ ⟨by simpa using hi, ⟨by simp; omega, ⟨rM.ptr _ _, ⟨rM.one _, ⟨by simpa using hev, ⟨rfl, ⟨by simpa using hat, ⟨rO.ptr _ _, ⟨rO.one _, ⟨by simp; omega, ⟨rO.ptr _ _, ⟨rO.one _, ⟨rM.ptr _ _, ⟨rM.one _, ⟨by simp; omega, ⟨rM.ptr _ _, ⟨rM.one _, ⟨by simp; omega, ⟨rC.ptr _ _, ⟨rC.one _, ⟨hcut _, ⟨by simp; omega, ⟨by simp; omega, ?_⟩⟩⟩⟩⟩⟩⟩⟩⟩⟩⟩⟩⟩⟩⟩⟩⟩⟩⟩⟩⟩⟩⟩
          exact next4 (g := false) _ him hi h30 rfl rfl hle (fun q => by cases q)
      · refine Wp.tree (cE_ok 2) (tree4lo ao ac am ad ows.length nc ms.length (ows.length - (at_ + 1)) co cc cm cd at_ i z mo b1 o1 b2 o2 b3 o3 H []) ⟨rfl, rfl⟩ ⟨by simpa using hi, ⟨by simp; omega, ⟨rM.ptr _ _, ⟨rM.one _, ⟨by simpa using hev, ⟨rfl, ⟨by simpa using hat, ⟨rO.ptr _ _, ⟨rO.one _, ⟨by simp; omega, ⟨rM.ptr _ _, ⟨rM.one _, ⟨by simp; omega, ⟨rC.ptr _ _, ⟨rC.one _, ⟨hcut _, ⟨by simp; omega, ?_⟩⟩⟩⟩⟩⟩⟩⟩⟩⟩⟩⟩⟩⟩⟩⟩⟩
        exact next4 (g := false) _ him hi h30 rfl rfl hle (fun q => by cases q)
theorem law {H : Heap} {l most : Value} {zs ms : List Int} (hL : RowsW 1 H l (zs.map ir)) (hM : RowsW 1 H most (ms.map ir)) : Sim Try.prog 4 [l, most] H fun v _ => v = .bool true := by
  obtain ⟨al, cl, rfl⟩ := hL.slcM
  obtain ⟨am, cm, rfl⟩ := hM.slcM
  obtain ⟨l1, hcut, hL1⟩ := hL.cutM (lo := 0) (hi := min zs.length 20) (by omega) (by omega) none (some (.const (.int .i64 (min zs.length 20 : Nat)))) (.inl ⟨rfl, rfl⟩) (.inr rfl)
  rw [List.drop_zero] at hL1
  obtain ⟨ows, hows⟩ : ∃ ows, ows = zs.take (min zs.length 20) := ⟨_, rfl⟩
  rw [← hows] at hL1
  have hlen : ows.length ≤ 20 := by rw [hows]; simp; omega
  obtain ⟨a1, c1, rfl⟩ := hL1.slcM
  obtain ⟨own, X, ha1, hX, hne⟩ := LsS.all (w := 1) (eby := 8) (H := H) (J := [some ⟨.fix, []⟩]) (R := []) (l := .slice (some ⟨H.length + 0, 0, none⟩) 0 0) (new := ows.map ir) (.inr (.inl ⟨0, rfl, rfl, rfl⟩)) ((hL1.app _).src) (ir_w _) (by decide) (by simp; omega) (by simp; omega)
  have hown := hX.rows (by decide) []
  obtain ⟨ao, no, co, rfl⟩ := hne ⟨_, _, _, rfl⟩
  obtain ⟨_, _, hq⟩ := hX.slcM
  cases hq
  let H1 : Heap := H ++ ([some ⟨.fix, []⟩] ++ X)
  have e1 : H ++ ([some ⟨.fix, []⟩] ++ ([] ++ X) ++ []) = H1 := by simp [H1]
  rw [e1] at hown
  obtain ⟨cur, Y, ha2, hY, _⟩ := LsS.all (w := 1) (eby := 8) (H := H1) (J := [some ⟨.fix, []⟩]) (R := []) (l := .slice (some ⟨H1.length + 0, 0, none⟩) 0 0) (new := ows.map ir) (.inr (.inl ⟨0, rfl, rfl, rfl⟩)) ((hown.app _).src) (ir_w _) (by decide) (by simp; omega) (by simp; omega)
  have hcur := hY.rows (by decide) []
  obtain ⟨ac, cc, rfl⟩ := hY.slcM
  let H2 : Heap := H1 ++ ([some ⟨.fix, []⟩] ++ Y)
  have e2 : H1 ++ ([some ⟨.fix, []⟩] ++ ([] ++ Y) ++ []) = H2 := by simp [H2]
  rw [e2] at hcur
  obtain ⟨e, t1, h1, ⟨rfl, bx, rfl, rfl⟩, w⟩ := (loop4 (H := H2) ((hM.app ([some ⟨.fix, []⟩] ++ X)).app ([some ⟨.fix, []⟩] ++ Y)) (hown.app ([some ⟨.fix, []⟩] ++ Y)) hcur hlen).exact
  have := fnS_tree (Q := fun v _ => v = .bool true) mixed (gE_ok 2) (gE_q 2) (cE_ok 2) st4 (tree4 al am a1 ac ao zs.length ms.length ows.length ows.length ows.length cl cm c1 co cc (min zs.length 20 : Nat) H X Y bx) ⟨rfl, rfl⟩ (by
    refine ⟨mn_ok _ _ 20, hcut _, ?_, ?_, ?_, rfl, rfl⟩
    · have := ha1 (Plain.env tbl (gE 2))
      simpa [denH, denL, It.den, denV, denA, den0, ofs, It.len] using this
    · have := ha2 (Plain.env tbl (gE 0))
      simpa [denH, denL, It.den, denV, denA, den0, ofs, It.len, H1, Nat.add_assoc, Nat.add_comm, Nat.add_left_comm] using this
    · have eH : denH [.seg H, .blk .fix [], .seg X, .blk .fix [], .seg Y, .blk .fix [.raw (.slice ac ows.length cc), sB false]] = denH (hp4 H2 (.slice ac ows.length cc) false) := by simp [denH, denL, It.den, H2, H1, den0]
      have eJ : denH [.seg H, .blk .fix [], .seg X, .blk .fix [], .seg Y, .raw bx] = denH [.seg H2, .raw bx] := by simp [denH, denL, It.den, H2, H1]
      have eF : denF [.seg H, .blk .fix [], .seg X, .blk .fix [], .seg Y, .blk .fix [.raw (.slice ac ows.length cc), sB false]] (frS 106 [(1, (.raw (.slice am ms.length cm))), (4, (sB false)), (5, (.raw (.slice (some ao) ows.length co))), (6, (.ptr 5 0)), (7, (sI 0)), (8, (sB true)), (9, (sI 0))]) = denF (hp4 H2 (.slice ac ows.length cc) false) (fr4 (.slice am ms.length cm) (.slice (some ao) ows.length co) true 0 0) := by
        rw [frS_den, frS_den]
        simp [denV, denA, den0, ofs, It.len, H2, H1, Nat.add_assoc, Nat.add_comm, Nat.add_left_comm]
      rw [eH, eF, eJ]
      exact w.mono fun e s h ⟨q1, q2, q3⟩ => ⟨q1, by rw [q2]; show denF _ _ = denF _ _; kernel_rfl, q3⟩)
  simpa [denH, denL, It.den, denF, denV, denA, den0] using this
theorem lawA (H : Heap) (xs : List Value) (h : F2 (fun p a => ArgOk H p.1 p.2 a) [(false, [LT.s 1 [.i .i64]]), (false, [LT.s 1 [.i .i64]])] xs) : Sim Try.prog 4 xs H fun v _ => v = .bool true := by
  cases h with
  | cons h0 h => cases h with
    | cons h1 h => cases h with
      | nil =>
        obtain ⟨zs, hz, _⟩ := lt_ints (arg_one h0)
        obtain ⟨ms, hm, _⟩ := lt_ints (arg_one h1)
        exact law hz hm
end WR
end Go.Proofs.Ytgdojnamjkhknaa
