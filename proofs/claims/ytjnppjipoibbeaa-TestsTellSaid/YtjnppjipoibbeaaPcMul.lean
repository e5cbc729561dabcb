/-
  The document's MulDiv by one, without rounding: a product; the document's AtLeast.
-/
import Derived.Test.YtjnppjipoibbeaaPcTests
namespace Go.Proofs.Ytjnppjipoibbeaa.RefMul
open Go.Am Late lateRatios
set_option linter.all false
set_option maxRecDepth 100000
abbrev qt : List Nat := []
def preMul (n y p h : Int) : Bool := decide (0 ≤ n) && (decide (n ≤ 1099511627776) && (decide (0 ≤ y) && (decide (y ≤ 100000) && (decide (p = 1) && decide (h = 0)))))
def sMul : List Value → Option (Bool × Value)
  | [.int .i64 n, .int .i64 y, .int .i64 p, .int .i64 h] => some (preMul n y p h, .tuple ⟨[.int .i64 (n * y), .bool true]⟩)
  | _ => none
def tbl35 : Plain := [(35, sMul)]
/- live ahead of a turn: [0, 1, 2, 3, 8, 9, 10, 11, 12] -/
def body35_0 : IL := .seq (.seq (.reg [
      ⟨(some 44), none, .mov (.tmp 12)⟩,
      ⟨(some 45), none, .bin .geq (.tmp 44) (.const (.int .i64 0))⟩])
   (.ite (.tmp 45)
     (.skip)
     (.exit 0)))
  (.seq (.block 1
     (.seq (.reg [
        ⟨(some 48), none, .mov (.tmp 10)⟩,
        ⟨(some 49), none, .bin .mul (.const (.int .i64 2)) (.tmp 48)⟩,
        ⟨(some 50), none, .mov (.tmp 11)⟩,
        ⟨(some 51), none, .bin .mul (.const (.int .i64 2)) (.tmp 50)⟩,
        ⟨(some 10), none, .mov (.tmp 49)⟩,
        ⟨(some 11), none, .mov (.tmp 51)⟩])
     (.seq (.seq (.reg [
         ⟨(some 52), none, .mov (.tmp 1)⟩,
         ⟨(some 53), none, .mov (.tmp 12)⟩,
         ⟨(some 54), none, .bin .shr (.tmp 52) (.tmp 53)⟩,
         ⟨(some 55), none, .bin .and (.tmp 54) (.const (.int .i64 1))⟩,
         ⟨(some 56), none, .bin .eql (.tmp 55) (.const (.int .i64 1))⟩])
      (.ite (.tmp 56)
        (.dreg [
          ⟨(some 57), none, .mov (.tmp 10)⟩,
          ⟨(some 58), none, .mov (.tmp 0)⟩,
          ⟨(some 59), none, .mov (.tmp 2)⟩,
          ⟨(some 60), none, .bin .quo (.tmp 58) (.tmp 59)⟩,
          ⟨(some 61), none, .bin .add (.tmp 57) (.tmp 60)⟩,
          ⟨(some 62), none, .mov (.tmp 11)⟩,
          ⟨(some 63), none, .mov (.tmp 0)⟩,
          ⟨(some 64), none, .mov (.tmp 2)⟩,
          ⟨(some 65), none, .bin .rem (.tmp 63) (.tmp 64)⟩,
          ⟨(some 66), none, .bin .add (.tmp 62) (.tmp 65)⟩,
          ⟨(some 10), none, .mov (.tmp 61)⟩,
          ⟨(some 11), none, .mov (.tmp 66)⟩] [])
        (.skip)))
     (.seq (.dreg [
        ⟨(some 67), none, .mov (.tmp 10)⟩,
        ⟨(some 68), none, .mov (.tmp 11)⟩,
        ⟨(some 69), none, .mov (.tmp 2)⟩,
        ⟨(some 70), none, .bin .quo (.tmp 68) (.tmp 69)⟩,
        ⟨(some 71), none, .bin .add (.tmp 67) (.tmp 70)⟩,
        ⟨(some 72), none, .mov (.tmp 11)⟩,
        ⟨(some 73), none, .mov (.tmp 2)⟩,
        ⟨(some 74), none, .bin .rem (.tmp 72) (.tmp 73)⟩,
        ⟨(some 10), none, .mov (.tmp 71)⟩,
        ⟨(some 11), none, .mov (.tmp 74)⟩] [])
     (.seq (.reg [
        ⟨(some 75), none, .mov (.tmp 10)⟩,
        ⟨(some 76), none, .bin .gtr (.tmp 75) (.const (.int .i64 1152921504606846976))⟩])
     (.ite (.tmp 76)
       (.seq (.reg [
          ⟨(some 8), none, .mov (.const (.int .i64 0))⟩,
          ⟨(some 9), none, .mov (.const (.bool false))⟩])
       (.ret))
       (.skip)))))))
  (.reg [
    ⟨(some 46), none, .mov (.tmp 12)⟩,
    ⟨(some 47), none, .bin .sub (.tmp 46) (.const (.int .i64 1))⟩,
    ⟨(some 12), none, .mov (.tmp 47)⟩]))
def hb35_0 (n y q i s b : Int) : Hj := (.sym (.use 54 (.int .i64 s) [] (.use 55 (.int .i64 b) [] (.sym (.sym .nil .nil) (.sym .nil .nil)))) .nil)
theorem turn35_0 (n y q i s b : Int) : pieceT [] noEnv 100 (fun i => exL i body35_0 || inL [2, 3, 8, 9, 10, 11] i) body35_0 (hb35_0 n y q i s b) (fr 110 [(0, (.int .i64 n)), (1, (.int .i64 y)), (2, (.int .i64 1)), (3, (.int .i64 0)), (8, (.int .i64 0)), (9, (.bool false)), (10, (.int .i64 q)), (11, (.int .i64 0)), (12, (.int .i64 i))]) [] =
(.br (decide (i ≥ 0))
 (.claim (opA (Plain.env [] noEnv) (.bin .shr (.const (.int .i64 y)) (.const (.int .i64 i))) [] [] = some ((.int .i64 s), []))
 (.claim (opA (Plain.env [] noEnv) (.bin .and (.const (.int .i64 s)) (.const (.int .i64 1))) [] [] = some ((.int .i64 b), []))
 (.br (b == 1)
 (.req true (.req true (.req true (.req true (.req true (.req true (.br (decide ((IntKind.wrap .i64 ((IntKind.wrap .i64 ((IntKind.wrap .i64 (2 * q)) + (IntKind.wrap .i64 (Int.tdiv n 1)))) + (IntKind.wrap .i64 (Int.tdiv (IntKind.wrap .i64 (0 + (Int.tmod n 1))) 1)))) > 1152921504606846976))
 (.ret (pk .ret (fr 110 [(0, (.int .i64 n)), (1, (.int .i64 y)), (2, (.int .i64 1)), (3, (.int .i64 0)), (8, (.int .i64 0)), (9, (.bool false)), (10, (.int .i64 (IntKind.wrap .i64 ((IntKind.wrap .i64 ((IntKind.wrap .i64 (2 * q)) + (IntKind.wrap .i64 (Int.tdiv n 1)))) + (IntKind.wrap .i64 (Int.tdiv (IntKind.wrap .i64 (0 + (Int.tmod n 1))) 1)))))), (11, (.int .i64 (Int.tmod (IntKind.wrap .i64 (0 + (Int.tmod n 1))) 1))), (12, (.int .i64 i))])) [])
 (.ret (pk .normal (fr 110 [(0, (.int .i64 n)), (1, (.int .i64 y)), (2, (.int .i64 1)), (3, (.int .i64 0)), (8, (.int .i64 0)), (9, (.bool false)), (10, (.int .i64 (IntKind.wrap .i64 ((IntKind.wrap .i64 ((IntKind.wrap .i64 (2 * q)) + (IntKind.wrap .i64 (Int.tdiv n 1)))) + (IntKind.wrap .i64 (Int.tdiv (IntKind.wrap .i64 (0 + (Int.tmod n 1))) 1)))))), (11, (.int .i64 (Int.tmod (IntKind.wrap .i64 (0 + (Int.tmod n 1))) 1))), (12, (.int .i64 (IntKind.wrap .i64 (i - 1))))])) []))))))))
 (.req true (.req true (.req true (.br (decide ((IntKind.wrap .i64 ((IntKind.wrap .i64 (2 * q)) + 0)) > 1152921504606846976))
 (.ret (pk .ret (fr 110 [(0, (.int .i64 n)), (1, (.int .i64 y)), (2, (.int .i64 1)), (3, (.int .i64 0)), (8, (.int .i64 0)), (9, (.bool false)), (10, (.int .i64 (IntKind.wrap .i64 ((IntKind.wrap .i64 (2 * q)) + 0)))), (11, (.int .i64 0)), (12, (.int .i64 i))])) [])
 (.ret (pk .normal (fr 110 [(0, (.int .i64 n)), (1, (.int .i64 y)), (2, (.int .i64 1)), (3, (.int .i64 0)), (8, (.int .i64 0)), (9, (.bool false)), (10, (.int .i64 (IntKind.wrap .i64 ((IntKind.wrap .i64 (2 * q)) + 0)))), (11, (.int .i64 0)), (12, (.int .i64 (IntKind.wrap .i64 (i - 1))))])) []))))))))
 (.ret (pk (.exit 0) (fr 110 [(0, (.int .i64 n)), (1, (.int .i64 y)), (2, (.int .i64 1)), (3, (.int .i64 0)), (8, (.int .i64 0)), (9, (.bool false)), (10, (.int .i64 q)), (11, (.int .i64 0)), (12, (.int .i64 i))])) [])) := by kernel_rfl
/-- cascade/cascaderef1.MulDiv -/
def il35 : FnIL := ⟨110, [.tmp 8, .tmp 9],
  .seq (.reg [
     ⟨(some 8), none, .mov (.const (.int .i64 0))⟩,
     ⟨(some 9), none, .mov (.const (.bool false))⟩])
  (.seq (.seq (.reg [
      ⟨(some 14), none, .mov (.tmp 0)⟩,
      ⟨(some 15), none, .bin .lss (.tmp 14) (.const (.int .i64 0))⟩,
      ⟨(some 16), none, .mov (.tmp 15)⟩,
      ⟨(some 17), (some (16, false)), .mov (.tmp 1)⟩,
      ⟨(some 18), (some (16, false)), .bin .lss (.tmp 17) (.const (.int .i64 0))⟩,
      ⟨(some 19), none, .pick (.tmp 16) (.const (.bool true)) (.tmp 18)⟩,
      ⟨(some 20), none, .mov (.tmp 19)⟩,
      ⟨(some 21), (some (20, false)), .mov (.tmp 2)⟩,
      ⟨(some 22), (some (20, false)), .bin .lss (.tmp 21) (.const (.int .i64 1))⟩,
      ⟨(some 23), none, .pick (.tmp 20) (.const (.bool true)) (.tmp 22)⟩,
      ⟨(some 24), none, .mov (.tmp 23)⟩,
      ⟨(some 25), (some (24, false)), .mov (.tmp 3)⟩,
      ⟨(some 26), (some (24, false)), .bin .lss (.tmp 25) (.const (.int .i64 0))⟩,
      ⟨(some 27), none, .pick (.tmp 24) (.const (.bool true)) (.tmp 26)⟩,
      ⟨(some 28), none, .mov (.tmp 27)⟩,
      ⟨(some 29), (some (28, false)), .mov (.tmp 3)⟩,
      ⟨(some 30), (some (28, false)), .bin .gtr (.tmp 29) (.const (.int .i64 2))⟩,
      ⟨(some 31), none, .pick (.tmp 28) (.const (.bool true)) (.tmp 30)⟩,
      ⟨(some 32), none, .mov (.tmp 31)⟩,
      ⟨(some 33), (some (32, false)), .mov (.tmp 0)⟩,
      ⟨(some 34), (some (32, false)), .bin .gtr (.tmp 33) (.const (.int .i64 1152921504606846976))⟩,
      ⟨(some 35), none, .pick (.tmp 32) (.const (.bool true)) (.tmp 34)⟩,
      ⟨(some 36), none, .mov (.tmp 35)⟩,
      ⟨(some 37), (some (36, false)), .mov (.tmp 1)⟩,
      ⟨(some 38), (some (36, false)), .bin .gtr (.tmp 37) (.const (.int .i64 1152921504606846976))⟩,
      ⟨(some 39), none, .pick (.tmp 36) (.const (.bool true)) (.tmp 38)⟩,
      ⟨(some 40), none, .mov (.tmp 39)⟩,
      ⟨(some 41), (some (40, false)), .mov (.tmp 2)⟩,
      ⟨(some 42), (some (40, false)), .bin .gtr (.tmp 41) (.const (.int .i64 1152921504606846976))⟩,
      ⟨(some 43), none, .pick (.tmp 40) (.const (.bool true)) (.tmp 42)⟩])
   (.ite (.tmp 43)
     (.seq (.reg [
        ⟨(some 8), none, .mov (.const (.int .i64 0))⟩,
        ⟨(some 9), none, .mov (.const (.bool false))⟩])
     (.ret))
     (.skip)))
  (.seq (.reg [
     ⟨(some 10), none, .mov (.const (.int .i64 0))⟩,
     ⟨(some 11), none, .mov (.const (.int .i64 0))⟩])
  (.seq (.seq (.reg [
      ⟨(some 12), none, .mov (.const (.int .i64 60))⟩])
   (.block 0
     (.loop
       (.seq (.seq (.reg [
           ⟨(some 44), none, .mov (.tmp 12)⟩,
           ⟨(some 45), none, .bin .geq (.tmp 44) (.const (.int .i64 0))⟩])
        (.ite (.tmp 45)
          (.skip)
          (.exit 0)))
       (.seq (.block 1
          (.seq (.reg [
             ⟨(some 48), none, .mov (.tmp 10)⟩,
             ⟨(some 49), none, .bin .mul (.const (.int .i64 2)) (.tmp 48)⟩,
             ⟨(some 50), none, .mov (.tmp 11)⟩,
             ⟨(some 51), none, .bin .mul (.const (.int .i64 2)) (.tmp 50)⟩,
             ⟨(some 10), none, .mov (.tmp 49)⟩,
             ⟨(some 11), none, .mov (.tmp 51)⟩])
          (.seq (.seq (.reg [
              ⟨(some 52), none, .mov (.tmp 1)⟩,
              ⟨(some 53), none, .mov (.tmp 12)⟩,
              ⟨(some 54), none, .bin .shr (.tmp 52) (.tmp 53)⟩,
              ⟨(some 55), none, .bin .and (.tmp 54) (.const (.int .i64 1))⟩,
              ⟨(some 56), none, .bin .eql (.tmp 55) (.const (.int .i64 1))⟩])
           (.ite (.tmp 56)
             (.dreg [
               ⟨(some 57), none, .mov (.tmp 10)⟩,
               ⟨(some 58), none, .mov (.tmp 0)⟩,
               ⟨(some 59), none, .mov (.tmp 2)⟩,
               ⟨(some 60), none, .bin .quo (.tmp 58) (.tmp 59)⟩,
               ⟨(some 61), none, .bin .add (.tmp 57) (.tmp 60)⟩,
               ⟨(some 62), none, .mov (.tmp 11)⟩,
               ⟨(some 63), none, .mov (.tmp 0)⟩,
               ⟨(some 64), none, .mov (.tmp 2)⟩,
               ⟨(some 65), none, .bin .rem (.tmp 63) (.tmp 64)⟩,
               ⟨(some 66), none, .bin .add (.tmp 62) (.tmp 65)⟩,
               ⟨(some 10), none, .mov (.tmp 61)⟩,
               ⟨(some 11), none, .mov (.tmp 66)⟩] [])
             (.skip)))
          (.seq (.dreg [
             ⟨(some 67), none, .mov (.tmp 10)⟩,
             ⟨(some 68), none, .mov (.tmp 11)⟩,
             ⟨(some 69), none, .mov (.tmp 2)⟩,
             ⟨(some 70), none, .bin .quo (.tmp 68) (.tmp 69)⟩,
             ⟨(some 71), none, .bin .add (.tmp 67) (.tmp 70)⟩,
             ⟨(some 72), none, .mov (.tmp 11)⟩,
             ⟨(some 73), none, .mov (.tmp 2)⟩,
             ⟨(some 74), none, .bin .rem (.tmp 72) (.tmp 73)⟩,
             ⟨(some 10), none, .mov (.tmp 71)⟩,
             ⟨(some 11), none, .mov (.tmp 74)⟩] [])
          (.seq (.reg [
             ⟨(some 75), none, .mov (.tmp 10)⟩,
             ⟨(some 76), none, .bin .gtr (.tmp 75) (.const (.int .i64 1152921504606846976))⟩])
          (.ite (.tmp 76)
            (.seq (.reg [
               ⟨(some 8), none, .mov (.const (.int .i64 0))⟩,
               ⟨(some 9), none, .mov (.const (.bool false))⟩])
            (.ret))
            (.skip)))))))
       (.reg [
         ⟨(some 46), none, .mov (.tmp 12)⟩,
         ⟨(some 47), none, .bin .sub (.tmp 46) (.const (.int .i64 1))⟩,
         ⟨(some 12), none, .mov (.tmp 47)⟩]))))))
  (.seq (.reg [
     ⟨(some 77), none, .mov (.tmp 2)⟩,
     ⟨(some 78), none, .mov (.tmp 11)⟩,
     ⟨(some 79), none, .bin .sub (.tmp 77) (.tmp 78)⟩,
     ⟨(some 13), none, .mov (.tmp 79)⟩])
  (.seq (.seq (.reg [
      ⟨(some 80), none, .mov (.tmp 3)⟩,
      ⟨(some 81), none, .bin .eql (.tmp 80) (.const (.int .i64 1))⟩,
      ⟨(some 82), none, .mov (.tmp 81)⟩,
      ⟨(some 83), (some (82, true)), .mov (.tmp 11)⟩,
      ⟨(some 84), (some (82, true)), .bin .gtr (.tmp 83) (.const (.int .i64 0))⟩,
      ⟨(some 85), none, .pick (.tmp 82) (.tmp 84) (.const (.bool false))⟩,
      ⟨(some 86), none, .mov (.tmp 85)⟩,
      ⟨(some 87), (some (86, false)), .mov (.tmp 3)⟩,
      ⟨(some 88), (some (86, false)), .bin .eql (.tmp 87) (.const (.int .i64 2))⟩,
      ⟨(some 89), (some (86, false)), .mov (.tmp 88)⟩,
      ⟨(some 90), (some (89, true)), .mov (.tmp 11)⟩,
      ⟨(some 91), (some (89, true)), .mov (.tmp 13)⟩,
      ⟨(some 92), (some (89, true)), .bin .gtr (.tmp 90) (.tmp 91)⟩,
      ⟨(some 93), (some (89, true)), .mov (.tmp 92)⟩,
      ⟨(some 94), (some (93, false)), .mov (.tmp 11)⟩,
      ⟨(some 95), (some (93, false)), .mov (.tmp 13)⟩,
      ⟨(some 96), (some (93, false)), .bin .eql (.tmp 94) (.tmp 95)⟩,
      ⟨(some 97), (some (93, false)), .mov (.tmp 96)⟩,
      ⟨(some 98), (some (97, true)), .mov (.tmp 10)⟩,
      ⟨(some 99), (some (97, true)), .bin .and (.tmp 98) (.const (.int .i64 1))⟩,
      ⟨(some 100), (some (97, true)), .bin .eql (.tmp 99) (.const (.int .i64 1))⟩,
      ⟨(some 101), (some (93, false)), .pick (.tmp 97) (.tmp 100) (.const (.bool false))⟩,
      ⟨(some 102), (some (89, true)), .pick (.tmp 93) (.const (.bool true)) (.tmp 101)⟩,
      ⟨(some 103), (some (86, false)), .pick (.tmp 89) (.tmp 102) (.const (.bool false))⟩,
      ⟨(some 104), none, .pick (.tmp 86) (.const (.bool true)) (.tmp 103)⟩])
   (.ite (.tmp 104)
     (.reg [
       ⟨(some 105), none, .mov (.tmp 10)⟩,
       ⟨(some 106), none, .bin .add (.tmp 105) (.const (.int .i64 1))⟩,
       ⟨(some 10), none, .mov (.tmp 106)⟩])
     (.skip)))
  (.seq (.seq (.reg [
      ⟨(some 107), none, .mov (.tmp 10)⟩,
      ⟨(some 108), none, .bin .gtr (.tmp 107) (.const (.int .i64 1152921504606846976))⟩])
   (.ite (.tmp 108)
     (.seq (.reg [
        ⟨(some 8), none, .mov (.const (.int .i64 0))⟩,
        ⟨(some 9), none, .mov (.const (.bool false))⟩])
     (.ret))
     (.skip)))
  (.seq (.reg [
     ⟨(some 109), none, .mov (.tmp 10)⟩,
     ⟨(some 8), none, .mov (.tmp 109)⟩,
     ⟨(some 9), none, .mov (.const (.bool true))⟩])
  (.ret))))))))⟩
theorem st35 : stF Try.prog qt 35 = some il35 := by kernel_rfl
def hn35 (n y : Int) : Hj := (.join 3 (.con (.con (.con .nil))) (.con (.con (.con .nil))) (.join 3 (.con (.con (.con .nil))) (.con (.con (.con .nil))) (.join 3 (.con (.con (.con .nil))) (.con (.con (.con .nil))) (.join 3 (.con (.con (.con .nil))) (.con (.con (.con .nil))) (.join 3 (.con (.con (.con .nil))) (.con (.con (.con .nil))) (.join 3 (.con (.con (.con .nil))) (.con (.con (.con .nil))) (.join 3 (.con (.con (.con .nil))) (.con (.con (.con .nil))) (.sym .nil (.lp 0 [2, 3, 8, 9, 10, 11] (fr 110 [(2, (.int .i64 1)), (3, (.int .i64 0)), (8, (.int .i64 0)), (9, (.bool false)), (10, (.int .i64 (n * y))), (11, (.int .i64 0))]) [] (.con (.con (.con (.con (.con (.con (.con (.con (.con (.con (.con (.con (.con (.con (.con (.sym .nil .nil)))))))))))))))))))))))))
theorem tree35 (n y : Int) : fnU [] noEnv 100 il35 (hn35 n y) [.int .i64 n, .int .i64 y, .int .i64 1, .int .i64 0] [] =
(.req (bif (decide (n < 0)) then true else true) (.req (bif (bif (decide (n < 0)) then true else (decide (y < 0))) then true else true) (.req (bif (bif (bif (decide (n < 0)) then true else (decide (y < 0))) then true else false) then true else true) (.req (bif (bif (bif (bif (decide (n < 0)) then true else (decide (y < 0))) then true else false) then true else false) then true else true) (.req (bif (bif (bif (bif (bif (decide (n < 0)) then true else (decide (y < 0))) then true else false) then true else false) then true else false) then true else true) (.req (bif (bif (bif (bif (bif (bif (decide (n < 0)) then true else (decide (y < 0))) then true else false) then true else false) then true else false) then true else (decide (n > 1152921504606846976))) then true else true) (.req (bif (bif (bif (bif (bif (bif (bif (decide (n < 0)) then true else (decide (y < 0))) then true else false) then true else false) then true else false) then true else (decide (n > 1152921504606846976))) then true else (decide (y > 1152921504606846976))) then true else true) (.br (bif (bif (bif (bif (bif (bif (bif (decide (n < 0)) then true else (decide (y < 0))) then true else false) then true else false) then true else false) then true else (decide (n > 1152921504606846976))) then true else (decide (y > 1152921504606846976))) then true else false)
 (.ret (.tuple ⟨[(.int .i64 0), (.bool false)]⟩) [])
 (.claim (Wp (Plain.env [] noEnv) (inL [2, 3, 8, 9, 10, 11]) (.block 0 (.loop body35_0)) (fr 110 [(0, (.int .i64 n)), (1, (.int .i64 y)), (2, (.int .i64 1)), (3, (.int .i64 0)), (8, (.int .i64 0)), (9, (.bool false)), (10, (.int .i64 0)), (11, (.int .i64 0)), (12, (.int .i64 60))]) [] fun e s h' => e = .normal ∧ s = (fr 110 [(2, (.int .i64 1)), (3, (.int .i64 0)), (8, (.int .i64 0)), (9, (.bool false)), (10, (.int .i64 (n * y))), (11, (.int .i64 0))]) ∧ h' = [])
 (.br (decide ((n * y) > 1152921504606846976))
 (.ret (.tuple ⟨[(.int .i64 0), (.bool false)]⟩) [])
 (.ret (.tuple ⟨[(.int .i64 (n * y)), (.bool true)]⟩) []))))))))))) := by kernel_rfl

theorem shr_ok (Γ : Env) (y : Int) (m : Nat) (hm : m ≤ 60) : opA Γ (.bin .shr (.const (.int .i64 y)) (.const (.int .i64 m))) [] [] = some ((.int .i64 (y / 2 ^ m)), []) := by
  have h1 : ¬ ((m : Int) < 0) := by omega
  have h2 : min m 64 = m := by omega
  simp only [opA, pureA, ev, binA, h1, if_false, Int.toNat_natCast, IntKind.bits, h2]
  rw [Int.fdiv_eq_ediv_of_nonneg _ (by exact Int.pow_nonneg (by decide))]
theorem and_ok (Γ : Env) (s : Int) (h0 : Heap) : opA Γ (.bin .and (.const (.int .i64 s)) (.const (.int .i64 1))) [] h0 = some ((.int .i64 (s % 2)), h0) := by
  have h : ((BitVec.ofInt 64 s &&& BitVec.ofInt 64 1).toNat : Int) = s % 2 := by
    rw [BitVec.toNat_and, BitVec.toNat_ofInt, BitVec.toNat_ofInt]
    have : ((1 : Int) % ((2 ^ 64 : Nat) : Int)).toNat = 1 := by decide
    rw [this, Nat.and_one_is_mod]
    omega
  have e : IntKind.wrap .i64 ((BitVec.ofInt 64 s &&& BitVec.ofInt 64 1).toNat : Int) = s % 2 := by
    rw [h]; exact wrap_id (by omega) (by omega)
  simp only [opA, pureA, ev, binA, intBin, if_true]
  exact congrArg (fun z => some (Value.int .i64 z, h0)) e
def inv (n y : Int) (m : Nat) (t : Fr) (h : Heap) : Prop := m ≤ 61 ∧ h = [] ∧ t = fr 110 [(0, (.int .i64 n)), (1, (.int .i64 y)), (2, (.int .i64 1)), (3, (.int .i64 0)), (8, (.int .i64 0)), (9, (.bool false)), (10, (.int .i64 (n * (y / 2 ^ m)))), (11, (.int .i64 0)), (12, (.int .i64 ((m : Int) - 1)))]
theorem loop35 {n y : Int} (h0 : 0 ≤ n) (h1 : n ≤ 1099511627776) (h2 : 0 ≤ y) (h3 : y ≤ 100000) : Wp (Plain.env [] noEnv) (inL [2, 3, 8, 9, 10, 11]) (.block 0 (.loop body35_0)) (fr 110 [(0, (.int .i64 n)), (1, (.int .i64 y)), (2, (.int .i64 1)), (3, (.int .i64 0)), (8, (.int .i64 0)), (9, (.bool false)), (10, (.int .i64 0)), (11, (.int .i64 0)), (12, (.int .i64 60))]) [] fun e s h' => e = .normal ∧ s = (fr 110 [(2, (.int .i64 1)), (3, (.int .i64 0)), (8, (.int .i64 0)), (9, (.bool false)), (10, (.int .i64 (n * y))), (11, (.int .i64 0))]) ∧ h' = [] := by
  have key : ∀ m : Nat, 0 ≤ y / 2 ^ m ∧ y / 2 ^ m ≤ y := fun m => ⟨Int.ediv_nonneg h2 (Int.pow_nonneg (by decide)), Int.ediv_le_self _ h2⟩
  have mulB : ∀ s : Int, 0 ≤ s → s ≤ y → 0 ≤ n * s ∧ n * s ≤ 109951162777600000 := fun s hs0 hs1 => ⟨Int.mul_nonneg h0 hs0, by
    calc n * s ≤ 1099511627776 * 100000 := Int.mul_le_mul h1 (by omega) hs0 (by decide)
      _ = 109951162777600000 := by decide⟩
  refine Wp.block ((Wp.loop (K := fun e s h' => e = .exit 0 ∧ h' = [] ∧ s = fr 110 [(0, (.int .i64 n)), (1, (.int .i64 y)), (2, (.int .i64 1)), (3, (.int .i64 0)), (8, (.int .i64 0)), (9, (.bool false)), (10, (.int .i64 (n * y))), (11, (.int .i64 0)), (12, (.int .i64 (-1)))]) (inv n y) ?_ 61 _ _ ?_).ends fun e s h' ⟨q1, q2, q3⟩ => ?_)
  · intro m t h ⟨hm, hh, ht⟩
    subst hh ht
    cases m with
    | zero =>
      refine Wp.piece 100 (hb35_0 n y (n * (y / 2 ^ 0)) ((0 : Nat) - 1) 0 0) ?_
      rw [turn35_0]
      refine ⟨fun q => by simp at q, fun _ => outP_pk ⟨rfl, rfl, ?_⟩⟩
      simp
    | succ m =>
      have hs := key m
      have hb := mulB _ hs.1 hs.2
      have hd : y / 2 ^ (m + 1) = y / 2 ^ m / 2 := by rw [Int.pow_succ, Int.ediv_ediv_of_nonneg (Int.pow_nonneg (by decide))]
      have hi : ((m + 1 : Nat) : Int) - 1 = m := by omega
      rw [hi, hd]
      refine Wp.piece 100 (hb35_0 n y (n * (y / 2 ^ m / 2)) m (y / 2 ^ m) (y / 2 ^ m % 2)) ?_
      rw [turn35_0]
      have hshr := shr_ok (Plain.env [] noEnv) y m (by omega)
      generalize hsd : y / 2 ^ m = s at *
      have hq := mulB (s / 2) (by omega) (by omega)
      have e2 : ∀ b, s = 2 * (s / 2) + b → n * s = 2 * (n * (s / 2)) + n * b := fun b hb => by
        conv => lhs; rw [hb]
        rw [Int.mul_add, Int.mul_left_comm]
      have wq : IntKind.wrap .i64 (2 * (n * (s / 2))) = 2 * (n * (s / 2)) := wrap_id (by omega) (by omega)
      have w0 : IntKind.wrap .i64 (0 + Int.tmod n 1) = 0 := by rw [Int.tmod_one]; decide
      have wn : IntKind.wrap .i64 (Int.tdiv n 1) = n := by rw [Int.tdiv_one]; exact wrap_id (by omega) (by omega)
      have wi : IntKind.wrap .i64 ((m : Int) - 1) = (m : Int) - 1 := wrap_id (by omega) (by omega)
      have z1 : IntKind.wrap .i64 (Int.tdiv 0 1) = 0 := by decide
      have z2 : Int.tmod 0 1 = 0 := by decide
      rw [wq, w0, wn, wi, z1, z2]
      refine ⟨fun _ => ⟨hshr, and_ok _ s [], fun q => ⟨rfl, rfl, rfl, rfl, rfl, rfl, ?_⟩, fun q => ⟨rfl, rfl, rfl, ?_⟩⟩, fun q => by simp at q <;> omega⟩
      · have hb1 : s % 2 = 1 := by simpa using q
        have e := e2 1 (by omega)
        rw [Int.mul_one] at e
        have v1 : IntKind.wrap .i64 (IntKind.wrap .i64 (2 * (n * (s / 2)) + n) + 0) = n * s := by
          rw [wrap_id (n := 2 * (n * (s / 2)) + n) (by omega) (by omega), Int.add_zero, wrap_id (by omega) (by omega)]
          omega
        rw [v1]
        refine ⟨fun q => by simp at q <;> omega, fun _ => outP_pk ⟨m, by omega, by omega, rfl, ?_⟩⟩
        rw [hsd]
      · have hb1 : s % 2 = 0 := by
          have : ¬ s % 2 = 1 := by simpa using q
          omega
        have e := e2 0 (by omega)
        rw [Int.mul_zero, Int.add_zero] at e
        have v1 : IntKind.wrap .i64 (2 * (n * (s / 2)) + 0) = n * s := by
          rw [Int.add_zero, wrap_id (by omega) (by omega)]
          omega
        rw [v1]
        refine ⟨fun q => by simp at q <;> omega, fun _ => outP_pk ⟨m, by omega, by omega, rfl, ?_⟩⟩
        rw [hsd]
  · refine ⟨by omega, rfl, ?_⟩
    have : y / 2 ^ 61 = 0 := Int.ediv_eq_zero_of_lt h2 (by omega)
    rw [this, Int.mul_zero]
    rfl
  · subst q1 q2 q3
    exact ⟨_, norm_ag (inL [2, 3, 8, 9, 10, 11]) _, rfl, by kernel_rfl, rfl⟩
theorem mul_sim {n y p h : Int} (hp : preMul n y p h = true) : Sim Try.prog 35 [.int .i64 n, .int .i64 y, .int .i64 p, .int .i64 h] [] fun v _ => v = .tuple ⟨[.int .i64 (n * y), .bool true]⟩ := by
  simp only [preMul, Bool.and_eq_true, decide_eq_true_eq] at hp
  obtain ⟨h0, h1, h2, h3, rfl, rfl⟩ := hp
  refine fnU_sim mixed (T := []) (Γ := noEnv) (Plain.ok .nil noEnv_ok) (Plain.quiet noEnv_quiet) st35 (fuel := 100) (hn := hn35 n y) ?_
  rw [tree35]
  have n0 : decide (n < 0) = false := by simpa using h0
  have y0 : decide (y < 0) = false := by simpa using h2
  have n1 : decide (n > 1152921504606846976) = false := by simp; omega
  have y1 : decide (y > 1152921504606846976) = false := by simp; omega
  have hm : n * y ≤ 109951162777600000 := by
    calc n * y ≤ 1099511627776 * 100000 := Int.mul_le_mul h1 h3 h2 (by decide)
      _ = 109951162777600000 := by decide
  have m1 : decide (n * y > 1152921504606846976) = false := by simp; omega
  rw [n0, y0, n1, y1, m1]
  refine ⟨rfl, rfl, rfl, rfl, rfl, rfl, rfl, ?_⟩
  refine ⟨fun q => (by cases q), fun _ => ?_⟩
  refine ⟨loop35 h0 h1 h2 h3, ?_⟩
  exact ⟨fun q => (by cases q), fun _ => rfl⟩
theorem ok35 : PlainOk Try.prog tbl35 := .cons (fun args v e => by
  unfold sMul at e
  split at e
  · simp only [Option.some.injEq, Prod.mk.injEq] at e
    obtain ⟨e1, rfl⟩ := e
    exact ⟨rfl, rfl, mul_sim e1⟩
  · cases e) .nil
def refB (a b p : Int) : Bool := decide (a * 10000 ≥ b * p)
def preRef (a b p : Int) : Bool := preMul a 10000 1 0 && preMul b p 1 0
def sRef : List Value → Option (Bool × Value)
  | [.int .i64 a, .int .i64 b, .int .i64 p] => some (preRef a b p, .bool (refB a b p))
  | _ => none
/-- cascade/cascaderef9.AtLeast -/
def il21 : FnIL := ⟨31, [.tmp 6],
  .seq (.reg [
     ⟨(some 6), none, .mov (.const (.bool false))⟩])
  (.seq (.reg [
     ⟨(some 12), none, .mov (.tmp 0)⟩,
     ⟨(some 13), none, .call 35 [(.tmp 12), (.const (.int .i64 10000)), (.const (.int .i64 1)), (.const (.int .i64 0))]⟩,
     ⟨(some 11), none, .mov (.tmp 13)⟩,
     ⟨(some 14), none, .ext 0 (.tmp 11)⟩,
     ⟨(some 15), none, .ext 1 (.tmp 11)⟩,
     ⟨(some 7), none, .mov (.tmp 14)⟩,
     ⟨(some 8), none, .mov (.tmp 15)⟩])
  (.seq (.reg [
     ⟨(some 17), none, .mov (.tmp 1)⟩,
     ⟨(some 18), none, .mov (.tmp 2)⟩,
     ⟨(some 19), none, .call 35 [(.tmp 17), (.tmp 18), (.const (.int .i64 1)), (.const (.int .i64 0))]⟩,
     ⟨(some 16), none, .mov (.tmp 19)⟩,
     ⟨(some 20), none, .ext 0 (.tmp 16)⟩,
     ⟨(some 21), none, .ext 1 (.tmp 16)⟩,
     ⟨(some 9), none, .mov (.tmp 20)⟩,
     ⟨(some 10), none, .mov (.tmp 21)⟩])
  (.seq (.reg [
     ⟨(some 22), none, .mov (.tmp 8)⟩,
     ⟨(some 23), none, .mov (.tmp 22)⟩,
     ⟨(some 24), (some (23, true)), .mov (.tmp 10)⟩,
     ⟨(some 25), none, .pick (.tmp 23) (.tmp 24) (.const (.bool false))⟩,
     ⟨(some 26), none, .mov (.tmp 25)⟩,
     ⟨(some 27), (some (26, true)), .mov (.tmp 7)⟩,
     ⟨(some 28), (some (26, true)), .mov (.tmp 9)⟩,
     ⟨(some 29), (some (26, true)), .bin .geq (.tmp 27) (.tmp 28)⟩,
     ⟨(some 30), none, .pick (.tmp 26) (.tmp 29) (.const (.bool false))⟩,
     ⟨(some 6), none, .mov (.tmp 30)⟩])
  (.ret))))⟩
theorem st21 : stF Try.prog qt 21 = some il21 := by kernel_rfl
def hn21 : Hj := (.con (.con (.con (.con (.con (.con .nil))))))
theorem tree21 (x0 x1 x2 : Int) : fnU tbl35 noEnv 100 il21 hn21 [.int .i64 x0, .int .i64 x1, .int .i64 x2] [] =
(.req (preMul x0 10000 1 0) (.req (preMul x1 x2 1 0) (.ret (.bool (decide ((x0 * 10000) ≥ (x1 * x2)))) []))) := by kernel_rfl

theorem ref_sim {a b p : Int} (hp : preRef a b p = true) : Sim Try.prog 21 [.int .i64 a, .int .i64 b, .int .i64 p] [] fun v _ => v = .bool (refB a b p) := by
  simp only [preRef, Bool.and_eq_true] at hp
  refine fnU_sim mixed (Plain.ok ok35 noEnv_ok) (Plain.quiet noEnv_quiet) st21 (fuel := 100) (hn := hn21) ?_
  rw [tree21]
  exact ⟨hp.1, hp.2, rfl⟩
end Go.Proofs.Ytjnppjipoibbeaa.RefMul
