/-
  The law TestsMove, in plain Lean.
-/
import Derived.Test.YtjnppjipoibbeaaPcTests
namespace Go.Proofs.Ytjnppjipoibbeaa.Tests
open Go.Am Late lateRatios
set_option linter.all false
set_option maxRecDepth 100000
/-- cascade/cascadelaw15.TestsMove -/
def il5 : FnIL := ⟨141, [.tmp 12],
  .seq (.reg [
     ⟨(some 6), none, .box (.tmp 0)⟩,
     ⟨(some 7), none, .box (.tmp 1)⟩,
     ⟨(some 12), none, .mov (.const (.bool false))⟩])
  (.seq (.seq (.reg [
      ⟨(some 20), none, .fadr 0 (.tmp 6)⟩,
      ⟨(some 21), none, .fadr 1 (.tmp 6)⟩,
      ⟨(some 22), none, .fadr 2 (.tmp 6)⟩,
      ⟨(some 23), none, .fadr 3 (.tmp 6)⟩,
      ⟨(some 24), none, .fadr 4 (.tmp 6)⟩,
      ⟨(some 25), none, .mkrow [(.pointer none), (.pointer none), (.pointer none), (.pointer none), (.pointer none)] 5 [(0, 1, (.tmp 20)), (1, 1, (.tmp 21)), (2, 1, (.tmp 22)), (3, 1, (.tmp 23)), (4, 1, (.tmp 24))]⟩,
      ⟨(some 26), none, .len (.tmp 25)⟩,
      ⟨(some 27), none, .mov (.const (.int .i64 0))⟩])
   (.block 0
     (.loop
       (.seq (.reg [
          ⟨(some 28), none, .bin .lss (.tmp 27) (.tmp 26)⟩])
       (.seq (.ite (.tmp 28)
          (.skip)
          (.exit 0))
       (.seq (.block 1
          (.seq (.reg [
             ⟨(some 29), none, .iadr 1 none (.tmp 25) (.tmp 27)⟩,
             ⟨(some 30), none, .load (.tmp 29) none⟩,
             ⟨(some 14), none, .mov (.tmp 30)⟩])
          (.reg [
            ⟨(some 31), none, .mov (.tmp 14)⟩,
            ⟨(some 32), none, .mov (.tmp 14)⟩,
            ⟨(some 33), none, .nilck (.tmp 32)⟩,
            ⟨(some 34), none, .load (.tmp 33) none⟩,
            ⟨(some 35), none, .call 19 [(.tmp 34), (.const (.int .i64 0)), (.const (.int .i64 20000))]⟩,
            ⟨(some 36), none, .nilck (.tmp 31)⟩,
            ⟨none, none, .store (.tmp 36) (.tmp 35) 1⟩])))
       (.reg [
         ⟨(some 37), none, .bin .add (.tmp 27) (.const (.int .i64 1))⟩,
         ⟨(some 27), none, .mov (.tmp 37)⟩])))))))
  (.seq (.seq (.reg [
      ⟨(some 38), none, .fadr 0 (.tmp 7)⟩,
      ⟨(some 39), none, .fadr 1 (.tmp 7)⟩,
      ⟨(some 40), none, .fadr 2 (.tmp 7)⟩,
      ⟨(some 41), none, .fadr 3 (.tmp 7)⟩,
      ⟨(some 42), none, .fadr 4 (.tmp 7)⟩,
      ⟨(some 43), none, .fadr 5 (.tmp 7)⟩,
      ⟨(some 44), none, .fadr 6 (.tmp 7)⟩,
      ⟨(some 45), none, .mkrow [(.pointer none), (.pointer none), (.pointer none), (.pointer none), (.pointer none), (.pointer none), (.pointer none)] 7 [(0, 1, (.tmp 38)), (1, 1, (.tmp 39)), (2, 1, (.tmp 40)), (3, 1, (.tmp 41)), (4, 1, (.tmp 42)), (5, 1, (.tmp 43)), (6, 1, (.tmp 44))]⟩,
      ⟨(some 46), none, .len (.tmp 45)⟩,
      ⟨(some 47), none, .mov (.const (.int .i64 0))⟩])
   (.block 2
     (.loop
       (.seq (.reg [
          ⟨(some 48), none, .bin .lss (.tmp 47) (.tmp 46)⟩])
       (.seq (.ite (.tmp 48)
          (.skip)
          (.exit 2))
       (.seq (.block 3
          (.seq (.reg [
             ⟨(some 49), none, .iadr 1 none (.tmp 45) (.tmp 47)⟩,
             ⟨(some 50), none, .load (.tmp 49) none⟩,
             ⟨(some 16), none, .mov (.tmp 50)⟩])
          (.reg [
            ⟨(some 51), none, .mov (.tmp 16)⟩,
            ⟨(some 52), none, .mov (.tmp 16)⟩,
            ⟨(some 53), none, .nilck (.tmp 52)⟩,
            ⟨(some 54), none, .load (.tmp 53) none⟩,
            ⟨(some 55), none, .call 19 [(.tmp 54), (.const (.int .i64 0)), (.const (.int .i64 1073741824))]⟩,
            ⟨(some 56), none, .nilck (.tmp 51)⟩,
            ⟨none, none, .store (.tmp 56) (.tmp 55) 1⟩])))
       (.reg [
         ⟨(some 57), none, .bin .add (.tmp 47) (.const (.int .i64 1))⟩,
         ⟨(some 47), none, .mov (.tmp 57)⟩])))))))
  (.seq (.reg [
     ⟨(some 58), none, .load (.tmp 7) (some 7)⟩,
     ⟨(some 17), none, .alloc [(.int .i64 0), (.int .i64 0), (.int .i64 0), (.int .i64 0), (.int .i64 0), (.int .i64 0), (.int .i64 0)]⟩,
     ⟨none, none, .store (.tmp 17) (.tmp 58) 7⟩])
  (.seq (.dreg [
     ⟨(some 59), none, .fadr 0 (.tmp 7)⟩,
     ⟨(some 60), none, .load (.tmp 59) none⟩,
     ⟨(some 61), none, .mov (.tmp 2)⟩,
     ⟨(some 62), none, .call 19 [(.tmp 61), (.const (.int .i64 0)), (.const (.int .i64 1073741824))]⟩,
     ⟨(some 63), none, .bin .add (.tmp 60) (.tmp 62)⟩,
     ⟨(some 64), none, .fadr 3 (.tmp 7)⟩,
     ⟨(some 65), none, .load (.tmp 64) none⟩,
     ⟨(some 66), none, .mov (.tmp 3)⟩,
     ⟨(some 67), none, .call 19 [(.tmp 66), (.const (.int .i64 0)), (.const (.int .i64 1073741824))]⟩,
     ⟨(some 68), none, .bin .add (.tmp 65) (.tmp 67)⟩,
     ⟨(some 69), none, .fadr 0 (.tmp 17)⟩,
     ⟨none, none, .store (.tmp 69) (.tmp 63) 1⟩,
     ⟨(some 70), none, .fadr 3 (.tmp 17)⟩,
     ⟨none, none, .store (.tmp 70) (.tmp 68) 1⟩] [(6, 11)])
  (.seq (.dreg [
     ⟨(some 71), none, .fadr 5 (.tmp 7)⟩,
     ⟨(some 72), none, .load (.tmp 71) none⟩,
     ⟨(some 73), none, .mov (.tmp 4)⟩,
     ⟨(some 74), none, .fadr 5 (.tmp 7)⟩,
     ⟨(some 75), none, .load (.tmp 74) none⟩,
     ⟨(some 76), none, .call 19 [(.tmp 73), (.const (.int .i64 0)), (.tmp 75)]⟩,
     ⟨(some 77), none, .bin .sub (.tmp 72) (.tmp 76)⟩,
     ⟨(some 78), none, .fadr 6 (.tmp 7)⟩,
     ⟨(some 79), none, .load (.tmp 78) none⟩,
     ⟨(some 80), none, .mov (.tmp 5)⟩,
     ⟨(some 81), none, .fadr 6 (.tmp 7)⟩,
     ⟨(some 82), none, .load (.tmp 81) none⟩,
     ⟨(some 83), none, .call 19 [(.tmp 80), (.const (.int .i64 0)), (.tmp 82)]⟩,
     ⟨(some 84), none, .bin .sub (.tmp 79) (.tmp 83)⟩,
     ⟨(some 85), none, .fadr 5 (.tmp 17)⟩,
     ⟨none, none, .store (.tmp 85) (.tmp 77) 1⟩,
     ⟨(some 86), none, .fadr 6 (.tmp 17)⟩,
     ⟨none, none, .store (.tmp 86) (.tmp 84) 1⟩] [(8, 15)])
  (.seq (.dreg [
     ⟨(some 87), none, .load (.tmp 6) (some 5)⟩,
     ⟨(some 88), none, .load (.tmp 7) (some 7)⟩,
     ⟨(some 89), none, .call 15 [(.tmp 87), (.tmp 88)]⟩,
     ⟨(some 90), none, .load (.tmp 6) (some 5)⟩,
     ⟨(some 91), none, .load (.tmp 17) (some 7)⟩,
     ⟨(some 92), none, .call 15 [(.tmp 90), (.tmp 91)]⟩,
     ⟨(some 18), none, .alloc [(.bool false), (.bool false), (.bool false), (.bool false)]⟩,
     ⟨(some 19), none, .alloc [(.bool false), (.bool false), (.bool false), (.bool false)]⟩,
     ⟨none, none, .store (.tmp 18) (.tmp 89) 4⟩,
     ⟨none, none, .store (.tmp 19) (.tmp 92) 4⟩] [(2, 6), (2, 7), (5, 6), (5, 7)])
  (.seq (.reg [
     ⟨(some 93), none, .fadr 0 (.tmp 18)⟩,
     ⟨(some 94), none, .load (.tmp 93) none⟩,
     ⟨(some 95), none, .un .not (.tmp 94)⟩,
     ⟨(some 96), none, .mov (.tmp 95)⟩,
     ⟨(some 97), (some (96, false)), .fadr 0 (.tmp 19)⟩,
     ⟨(some 98), (some (96, false)), .load (.tmp 97) none⟩,
     ⟨(some 99), none, .pick (.tmp 96) (.const (.bool true)) (.tmp 98)⟩,
     ⟨(some 100), none, .mov (.tmp 99)⟩,
     ⟨(some 101), (some (100, true)), .fadr 1 (.tmp 18)⟩,
     ⟨(some 102), (some (100, true)), .load (.tmp 101) none⟩,
     ⟨(some 103), (some (100, true)), .un .not (.tmp 102)⟩,
     ⟨(some 104), (some (100, true)), .mov (.tmp 103)⟩,
     ⟨(some 105), (some (104, false)), .fadr 1 (.tmp 19)⟩,
     ⟨(some 106), (some (104, false)), .load (.tmp 105) none⟩,
     ⟨(some 107), (some (100, true)), .pick (.tmp 104) (.const (.bool true)) (.tmp 106)⟩,
     ⟨(some 108), none, .pick (.tmp 100) (.tmp 107) (.const (.bool false))⟩,
     ⟨(some 109), none, .mov (.tmp 108)⟩,
     ⟨(some 110), (some (109, true)), .fadr 2 (.tmp 18)⟩,
     ⟨(some 111), (some (109, true)), .load (.tmp 110) none⟩,
     ⟨(some 112), (some (109, true)), .un .not (.tmp 111)⟩,
     ⟨(some 113), (some (109, true)), .mov (.tmp 112)⟩,
     ⟨(some 114), (some (113, false)), .fadr 2 (.tmp 19)⟩,
     ⟨(some 115), (some (113, false)), .load (.tmp 114) none⟩,
     ⟨(some 116), (some (109, true)), .pick (.tmp 113) (.const (.bool true)) (.tmp 115)⟩,
     ⟨(some 117), none, .pick (.tmp 109) (.tmp 116) (.const (.bool false))⟩,
     ⟨(some 118), none, .mov (.tmp 117)⟩,
     ⟨(some 119), (some (118, true)), .fadr 3 (.tmp 18)⟩,
     ⟨(some 120), (some (118, true)), .load (.tmp 119) none⟩,
     ⟨(some 121), (some (118, true)), .un .not (.tmp 120)⟩,
     ⟨(some 122), (some (118, true)), .mov (.tmp 121)⟩,
     ⟨(some 123), (some (122, false)), .fadr 3 (.tmp 19)⟩,
     ⟨(some 124), (some (122, false)), .load (.tmp 123) none⟩,
     ⟨(some 125), (some (118, true)), .pick (.tmp 122) (.const (.bool true)) (.tmp 124)⟩,
     ⟨(some 126), none, .pick (.tmp 118) (.tmp 125) (.const (.bool false))⟩,
     ⟨(some 127), none, .mov (.tmp 126)⟩,
     ⟨(some 128), (some (127, true)), .load (.tmp 6) (some 5)⟩,
     ⟨(some 129), (some (127, true)), .load (.tmp 17) (some 7)⟩,
     ⟨(some 130), (some (127, true)), .call 18 [(.tmp 128), (.tmp 129)]⟩,
     ⟨(some 131), (some (127, true)), .un .not (.tmp 130)⟩,
     ⟨(some 132), (some (127, true)), .mov (.tmp 131)⟩,
     ⟨(some 133), (some (132, false)), .load (.tmp 6) (some 5)⟩,
     ⟨(some 134), (some (132, false)), .load (.tmp 7) (some 7)⟩,
     ⟨(some 135), (some (132, false)), .call 18 [(.tmp 133), (.tmp 134)]⟩,
     ⟨(some 136), (some (127, true)), .pick (.tmp 132) (.const (.bool true)) (.tmp 135)⟩,
     ⟨(some 137), none, .pick (.tmp 127) (.tmp 136) (.const (.bool false))⟩,
     ⟨(some 138), none, .mov (.tmp 137)⟩,
     ⟨(some 139), (some (138, true)), .call 3 []⟩,
     ⟨(some 140), none, .pick (.tmp 138) (.tmp 139) (.const (.bool false))⟩,
     ⟨(some 12), none, .mov (.tmp 140)⟩])
  (.ret))))))))⟩
theorem st5 : stF Try.prog qt 5 = some il5 := by kernel_rfl
def hn5 : Hj := (.con (.con (.con (.con (.con (.con (.con (.con (.con (.con (.con (.con (.con (.con (.join 3 (.con (.con (.con .nil))) (.con (.con (.con .nil))) (.join 8 (.con (.con (.con (.con (.join 3 (.con (.con (.con (.con .nil)))) (.con (.con (.con (.con .nil)))) (.con .nil)))))) (.con (.con (.con (.con (.con (.con (.con (.con .nil)))))))) (.join 8 (.con (.con (.con (.con (.join 3 (.con (.con (.con (.con .nil)))) (.con (.con (.con (.con .nil)))) (.con .nil)))))) (.con (.con (.con (.con (.con (.con (.con (.con .nil)))))))) (.join 8 (.con (.con (.con (.con (.join 3 (.con (.con (.con (.con .nil)))) (.con (.con (.con (.con .nil)))) (.con .nil)))))) (.con (.con (.con (.con (.con (.con (.con (.con .nil)))))))) (.join 10 (.con (.con (.con (.con (.con (.join 4 (.con (.con (.con (.con (.con .nil))))) (.con (.con (.con (.con (.con .nil))))) (.con .nil))))))) (.con (.con (.con (.con (.con (.con (.con (.con (.con (.con .nil)))))))))) (.join 2 (.con (.con .nil)) (.con (.con .nil)) .nil))))))))))))))))))))
theorem tree5 (t0 t1 t2 t3 t4 : Int) (v0 v1 v2 v3 v4 v5 v6 : Int) (x0 x1 x2 x3 : Int) : fnU tblT noEnv 200 il5 hn5 [(.agg ⟨[.int .i64 t0, .int .i64 t1, .int .i64 t2, .int .i64 t3, .int .i64 t4]⟩), (.agg ⟨[.int .i64 v0, .int .i64 v1, .int .i64 v2, .int .i64 v3, .int .i64 v4, .int .i64 v5, .int .i64 v6]⟩), .int .i64 x0, .int .i64 x1, .int .i64 x2, .int .i64 x3] [] =
(.req (preWithin 0 20000) (.req (preWithin 0 20000) (.req (preWithin 0 20000) (.req (preWithin 0 20000) (.req (preWithin 0 20000) (.req (preWithin 0 1073741824) (.req (preWithin 0 1073741824) (.req (preWithin 0 1073741824) (.req (preWithin 0 1073741824) (.req (preWithin 0 1073741824) (.req (preWithin 0 1073741824) (.req (preWithin 0 1073741824) (.req ((((preWithin 0 1073741824) && true) && (((preWithin 0 1073741824) && ((preWithin 0 1073741824) && true)) && (decide ((wn v3 0 1073741824) = (wn v3 0 1073741824))))) && true) (.req (preWithin 0 1073741824) (.req (preWithin 0 1073741824) (.req ((((preWithin 0 (wn v5 0 1073741824)) && true) && (((preWithin 0 (wn v5 0 1073741824)) && ((preWithin 0 (wn v6 0 1073741824)) && true)) && (decide ((wn v6 0 1073741824) = (wn v6 0 1073741824))))) && true) (.req (preWithin 0 (wn v5 0 1073741824)) (.req (preWithin 0 (wn v6 0 1073741824)) (.req ((((ocB (wn t0 0 20000) (wn v0 0 1073741824) (wn v2 0 1073741824)) == (ocB (wn t0 0 20000) (wn v0 0 1073741824) (wn v2 0 1073741824))) && (((ocB (wn t1 0 20000) (wn v3 0 1073741824) (wn v4 0 1073741824)) == (ocB (wn t1 0 20000) (wn v3 0 1073741824) (wn v4 0 1073741824))) && (((moB (wn t2 0 20000) (wn v5 0 1073741824) (wn v0 0 1073741824)) == (moB (wn t2 0 20000) (wn v5 0 1073741824) (wn v0 0 1073741824))) && (((moB (wn t3 0 20000) (wn v6 0 1073741824) (wn v1 0 1073741824)) == (moB (wn t3 0 20000) (wn v6 0 1073741824) (wn v1 0 1073741824))) && true)))) && ((((ocB (wn t0 0 20000) (wn v0 0 1073741824) (wn v2 0 1073741824)) == (ocB (wn t0 0 20000) (wn v0 0 1073741824) (wn v2 0 1073741824))) && (((ocB (wn t1 0 20000) (wn v3 0 1073741824) (wn v4 0 1073741824)) == (ocB (wn t1 0 20000) (wn v3 0 1073741824) (wn v4 0 1073741824))) && (((moB (wn t2 0 20000) (wn v5 0 1073741824) (wn v0 0 1073741824)) == (moB (wn t2 0 20000) (wn v5 0 1073741824) (wn v0 0 1073741824))) && (((moB (wn t3 0 20000) (wn v6 0 1073741824) (wn v1 0 1073741824)) == (moB (wn t3 0 20000) (wn v6 0 1073741824) (wn v1 0 1073741824))) && true)))) && ((((ocB (wn t0 0 20000) (IntKind.wrap .i64 ((wn v0 0 1073741824) + (wn x0 0 1073741824))) (wn v2 0 1073741824)) == (ocB (wn t0 0 20000) (IntKind.wrap .i64 ((wn v0 0 1073741824) + (wn x0 0 1073741824))) (wn v2 0 1073741824))) && (((ocB (wn t1 0 20000) (IntKind.wrap .i64 ((wn v3 0 1073741824) + (wn x1 0 1073741824))) (wn v4 0 1073741824)) == (ocB (wn t1 0 20000) (IntKind.wrap .i64 ((wn v3 0 1073741824) + (wn x1 0 1073741824))) (wn v4 0 1073741824))) && (((moB (wn t2 0 20000) (IntKind.wrap .i64 ((wn v5 0 1073741824) - (wn x2 0 (wn v5 0 1073741824)))) (IntKind.wrap .i64 ((wn v0 0 1073741824) + (wn x0 0 1073741824)))) == (moB (wn t2 0 20000) (IntKind.wrap .i64 ((wn v5 0 1073741824) - (wn x2 0 (wn v5 0 1073741824)))) (IntKind.wrap .i64 ((wn v0 0 1073741824) + (wn x0 0 1073741824))))) && (((moB (wn t3 0 20000) (IntKind.wrap .i64 ((wn v6 0 1073741824) - (wn x3 0 (wn v6 0 1073741824)))) (wn v1 0 1073741824)) == (moB (wn t3 0 20000) (IntKind.wrap .i64 ((wn v6 0 1073741824) - (wn x3 0 (wn v6 0 1073741824)))) (wn v1 0 1073741824))) && true)))) && ((((ocB (wn t0 0 20000) (IntKind.wrap .i64 ((wn v0 0 1073741824) + (wn x0 0 1073741824))) (wn v2 0 1073741824)) == (ocB (wn t0 0 20000) (IntKind.wrap .i64 ((wn v0 0 1073741824) + (wn x0 0 1073741824))) (wn v2 0 1073741824))) && (((ocB (wn t1 0 20000) (IntKind.wrap .i64 ((wn v3 0 1073741824) + (wn x1 0 1073741824))) (wn v4 0 1073741824)) == (ocB (wn t1 0 20000) (IntKind.wrap .i64 ((wn v3 0 1073741824) + (wn x1 0 1073741824))) (wn v4 0 1073741824))) && (((moB (wn t2 0 20000) (IntKind.wrap .i64 ((wn v5 0 1073741824) - (wn x2 0 (wn v5 0 1073741824)))) (IntKind.wrap .i64 ((wn v0 0 1073741824) + (wn x0 0 1073741824)))) == (moB (wn t2 0 20000) (IntKind.wrap .i64 ((wn v5 0 1073741824) - (wn x2 0 (wn v5 0 1073741824)))) (IntKind.wrap .i64 ((wn v0 0 1073741824) + (wn x0 0 1073741824))))) && (((moB (wn t3 0 20000) (IntKind.wrap .i64 ((wn v6 0 1073741824) - (wn x3 0 (wn v6 0 1073741824)))) (wn v1 0 1073741824)) == (moB (wn t3 0 20000) (IntKind.wrap .i64 ((wn v6 0 1073741824) - (wn x3 0 (wn v6 0 1073741824)))) (wn v1 0 1073741824))) && true)))) && true)))) (.req true (.req true (.req (bif (!(ocB (wn t0 0 20000) (wn v0 0 1073741824) (wn v2 0 1073741824))) then true else true) (.req (bif (bif (!(ocB (wn t0 0 20000) (wn v0 0 1073741824) (wn v2 0 1073741824))) then true else (ocB (wn t0 0 20000) (IntKind.wrap .i64 ((wn v0 0 1073741824) + (wn x0 0 1073741824))) (wn v2 0 1073741824))) then ((bif (!(ocB (wn t1 0 20000) (wn v3 0 1073741824) (wn v4 0 1073741824))) then true else true) && true) else true) (.req (bif (bif (bif (!(ocB (wn t0 0 20000) (wn v0 0 1073741824) (wn v2 0 1073741824))) then true else (ocB (wn t0 0 20000) (IntKind.wrap .i64 ((wn v0 0 1073741824) + (wn x0 0 1073741824))) (wn v2 0 1073741824))) then (bif (!(ocB (wn t1 0 20000) (wn v3 0 1073741824) (wn v4 0 1073741824))) then true else (ocB (wn t1 0 20000) (IntKind.wrap .i64 ((wn v3 0 1073741824) + (wn x1 0 1073741824))) (wn v4 0 1073741824))) else false) then ((bif (!(moB (wn t2 0 20000) (wn v5 0 1073741824) (wn v0 0 1073741824))) then true else true) && true) else true) (.req (bif (bif (bif (bif (!(ocB (wn t0 0 20000) (wn v0 0 1073741824) (wn v2 0 1073741824))) then true else (ocB (wn t0 0 20000) (IntKind.wrap .i64 ((wn v0 0 1073741824) + (wn x0 0 1073741824))) (wn v2 0 1073741824))) then (bif (!(ocB (wn t1 0 20000) (wn v3 0 1073741824) (wn v4 0 1073741824))) then true else (ocB (wn t1 0 20000) (IntKind.wrap .i64 ((wn v3 0 1073741824) + (wn x1 0 1073741824))) (wn v4 0 1073741824))) else false) then (bif (!(moB (wn t2 0 20000) (wn v5 0 1073741824) (wn v0 0 1073741824))) then true else (moB (wn t2 0 20000) (IntKind.wrap .i64 ((wn v5 0 1073741824) - (wn x2 0 (wn v5 0 1073741824)))) (IntKind.wrap .i64 ((wn v0 0 1073741824) + (wn x0 0 1073741824))))) else false) then ((bif (!(moB (wn t3 0 20000) (wn v6 0 1073741824) (wn v1 0 1073741824))) then true else true) && true) else true) (.req (bif (bif (bif (bif (bif (!(ocB (wn t0 0 20000) (wn v0 0 1073741824) (wn v2 0 1073741824))) then true else (ocB (wn t0 0 20000) (IntKind.wrap .i64 ((wn v0 0 1073741824) + (wn x0 0 1073741824))) (wn v2 0 1073741824))) then (bif (!(ocB (wn t1 0 20000) (wn v3 0 1073741824) (wn v4 0 1073741824))) then true else (ocB (wn t1 0 20000) (IntKind.wrap .i64 ((wn v3 0 1073741824) + (wn x1 0 1073741824))) (wn v4 0 1073741824))) else false) then (bif (!(moB (wn t2 0 20000) (wn v5 0 1073741824) (wn v0 0 1073741824))) then true else (moB (wn t2 0 20000) (IntKind.wrap .i64 ((wn v5 0 1073741824) - (wn x2 0 (wn v5 0 1073741824)))) (IntKind.wrap .i64 ((wn v0 0 1073741824) + (wn x0 0 1073741824))))) else false) then (bif (!(moB (wn t3 0 20000) (wn v6 0 1073741824) (wn v1 0 1073741824))) then true else (moB (wn t3 0 20000) (IntKind.wrap .i64 ((wn v6 0 1073741824) - (wn x3 0 (wn v6 0 1073741824)))) (wn v1 0 1073741824))) else false) then ((bif (!(cleanB (wn t4 0 20000) (IntKind.wrap .i64 ((wn v0 0 1073741824) + (wn x0 0 1073741824))) (wn v1 0 1073741824))) then true else true) && true) else true) (.req (bif (bif (bif (bif (bif (bif (!(ocB (wn t0 0 20000) (wn v0 0 1073741824) (wn v2 0 1073741824))) then true else (ocB (wn t0 0 20000) (IntKind.wrap .i64 ((wn v0 0 1073741824) + (wn x0 0 1073741824))) (wn v2 0 1073741824))) then (bif (!(ocB (wn t1 0 20000) (wn v3 0 1073741824) (wn v4 0 1073741824))) then true else (ocB (wn t1 0 20000) (IntKind.wrap .i64 ((wn v3 0 1073741824) + (wn x1 0 1073741824))) (wn v4 0 1073741824))) else false) then (bif (!(moB (wn t2 0 20000) (wn v5 0 1073741824) (wn v0 0 1073741824))) then true else (moB (wn t2 0 20000) (IntKind.wrap .i64 ((wn v5 0 1073741824) - (wn x2 0 (wn v5 0 1073741824)))) (IntKind.wrap .i64 ((wn v0 0 1073741824) + (wn x0 0 1073741824))))) else false) then (bif (!(moB (wn t3 0 20000) (wn v6 0 1073741824) (wn v1 0 1073741824))) then true else (moB (wn t3 0 20000) (IntKind.wrap .i64 ((wn v6 0 1073741824) - (wn x3 0 (wn v6 0 1073741824)))) (wn v1 0 1073741824))) else false) then (bif (!(cleanB (wn t4 0 20000) (IntKind.wrap .i64 ((wn v0 0 1073741824) + (wn x0 0 1073741824))) (wn v1 0 1073741824))) then true else (cleanB (wn t4 0 20000) (wn v0 0 1073741824) (wn v1 0 1073741824))) else false) then true else true) (.ret (.bool (bif (bif (bif (bif (bif (bif (!(ocB (wn t0 0 20000) (wn v0 0 1073741824) (wn v2 0 1073741824))) then true else (ocB (wn t0 0 20000) (IntKind.wrap .i64 ((wn v0 0 1073741824) + (wn x0 0 1073741824))) (wn v2 0 1073741824))) then (bif (!(ocB (wn t1 0 20000) (wn v3 0 1073741824) (wn v4 0 1073741824))) then true else (ocB (wn t1 0 20000) (IntKind.wrap .i64 ((wn v3 0 1073741824) + (wn x1 0 1073741824))) (wn v4 0 1073741824))) else false) then (bif (!(moB (wn t2 0 20000) (wn v5 0 1073741824) (wn v0 0 1073741824))) then true else (moB (wn t2 0 20000) (IntKind.wrap .i64 ((wn v5 0 1073741824) - (wn x2 0 (wn v5 0 1073741824)))) (IntKind.wrap .i64 ((wn v0 0 1073741824) + (wn x0 0 1073741824))))) else false) then (bif (!(moB (wn t3 0 20000) (wn v6 0 1073741824) (wn v1 0 1073741824))) then true else (moB (wn t3 0 20000) (IntKind.wrap .i64 ((wn v6 0 1073741824) - (wn x3 0 (wn v6 0 1073741824)))) (wn v1 0 1073741824))) else false) then (bif (!(cleanB (wn t4 0 20000) (IntKind.wrap .i64 ((wn v0 0 1073741824) + (wn x0 0 1073741824))) (wn v1 0 1073741824))) then true else (cleanB (wn t4 0 20000) (wn v0 0 1073741824) (wn v1 0 1073741824))) else false) then true else false)) [])))))))))))))))))))))))))))) := by kernel_rfl

theorem oc_mono {t a b x : Int} (h0 : 0 ≤ a) (h1 : a ≤ 1073741824) (h2 : 0 ≤ x) (h3 : x ≤ 1073741824) : (!(ocB t a b) || ocB t (a + x) b) = true := by
  simp only [ocB, alB, mayB]
  generalize b * t = m
  simp
  omega
theorem mo_mono {t a b x y : Int} (h0 : 0 ≤ b) (h1 : b ≤ 1073741824) (h2 : 0 ≤ x) (h3 : x ≤ 1073741824) (h4 : 0 ≤ y) (h5 : y ≤ a) (ht : 0 ≤ t) : (!(moB t a b) || moB t (a - y) (b + x)) = true := by
  simp only [moB, amB, mayB]
  have hx : 0 ≤ x * t := Int.mul_nonneg h2 ht
  have hm : (b + x) * t = b * t + x * t := Int.add_mul _ _ _
  rw [hm]
  generalize b * t = m at *
  generalize x * t = n at *
  simp
  omega
theorem mo_mono' {t a b y : Int} (h4 : 0 ≤ y) (h5 : y ≤ a) : (!(moB t a b) || moB t (a - y) b) = true := by
  simp only [moB, amB, mayB]
  generalize b * t = m at *
  simp
  omega
theorem cl_mono {t a b x : Int} (h0 : 0 ≤ a) (h2 : 0 ≤ x) : (!(cleanB t (a + x) b) || cleanB t a b) = true := by
  simp only [cleanB, amB, mayB]
  generalize b * t = m at *
  simp
  omega
theorem sim5 (t0 t1 t2 t3 t4 v0 v1 v2 v3 v4 v5 v6 x0 x1 x2 x3 : Int) : Sim Try.prog 5 [(.agg ⟨[.int .i64 t0, .int .i64 t1, .int .i64 t2, .int .i64 t3, .int .i64 t4]⟩), (.agg ⟨[.int .i64 v0, .int .i64 v1, .int .i64 v2, .int .i64 v3, .int .i64 v4, .int .i64 v5, .int .i64 v6]⟩), .int .i64 x0, .int .i64 x1, .int .i64 x2, .int .i64 x3] [] fun v _ => v = .bool true := by
  refine fnU_sim mixed (Plain.ok okT noEnv_ok) (Plain.quiet noEnv_quiet) st5 (fuel := 200) (hn := hn5) ?_
  rw [tree5]
  have p1 : preWithin 0 20000 = true := by decide
  have p2 : preWithin 0 1073741824 = true := by decide
  have g : ∀ x, 0 ≤ wn x 0 1073741824 ∧ wn x 0 1073741824 ≤ 1073741824 := fun x => ⟨wn_lo (by omega), wn_hi (by omega)⟩
  have gt : ∀ x, 0 ≤ wn x 0 20000 := fun x => wn_lo (by omega)
  have k2 : 0 ≤ wn x2 0 (wn v5 0 1073741824) ∧ wn x2 0 (wn v5 0 1073741824) ≤ wn v5 0 1073741824 := ⟨wn_lo (g v5).1, wn_hi (g v5).1⟩
  have k3 : 0 ≤ wn x3 0 (wn v6 0 1073741824) ∧ wn x3 0 (wn v6 0 1073741824) ≤ wn v6 0 1073741824 := ⟨wn_lo (g v6).1, wn_hi (g v6).1⟩
  have q : ∀ x, preWithin 0 (wn x 0 1073741824) = true := fun x => by
    have := g x
    simp only [preWithin, Bool.and_eq_true, decide_eq_true_eq]
    omega
  have e0 := g v0; have e1 := g v3; have e5 := g v5; have e6 := g v6; have y0 := g x0; have y1 := g x1
  rw [wrap_id (n := wn v0 0 1073741824 + wn x0 0 1073741824) (by omega) (by omega), wrap_id (n := wn v3 0 1073741824 + wn x1 0 1073741824) (by omega) (by omega),
    wrap_id (n := wn v5 0 1073741824 - wn x2 0 (wn v5 0 1073741824)) (by omega) (by omega), wrap_id (n := wn v6 0 1073741824 - wn x3 0 (wn v6 0 1073741824)) (by omega) (by omega)]
  have m1 := oc_mono (t := wn t0 0 20000) (b := wn v2 0 1073741824) e0.1 e0.2 y0.1 y0.2
  have m2 := oc_mono (t := wn t1 0 20000) (b := wn v4 0 1073741824) e1.1 e1.2 y1.1 y1.2
  have m3 := mo_mono (t := wn t2 0 20000) e0.1 e0.2 y0.1 y0.2 k2.1 k2.2 (gt t2)
  have m4 := mo_mono' (t := wn t3 0 20000) (b := wn v1 0 1073741824) k3.1 k3.2
  have m5 := cl_mono (t := wn t4 0 20000) (b := wn v1 0 1073741824) e0.1 y0.1
  simp only [p1, p2, q, Tr.holds, Bool.cond_true_left, Bool.cond_false_right, m1, m2, m3, m4, m5, beq_self_eq_true, decide_true, Bool.and_true, Bool.or_true, Bool.true_and, cond_true, true_and]
end Go.Proofs.Ytjnppjipoibbeaa.Tests
