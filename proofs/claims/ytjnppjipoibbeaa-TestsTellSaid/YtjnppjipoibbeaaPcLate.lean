/-
  late: what may be a ratio, at least, at most; the law of ratios.
-/
import Derived.Test.YtjnppjipoibbeaaProg
import Derived.Test.YtjnppjipoibbeaaLb0
import Derived.KernelRfl
namespace Go.Proofs.Ytjnppjipoibbeaa.Late
open Go.Am
set_option linter.all false
abbrev qt : List Nat := []
set_option maxRecDepth 100000
def mayB (a b p : Int) : Bool := decide (0 ≤ a) && (decide (a ≤ 1099511627776) && (decide (0 ≤ b) && (decide (b ≤ 1099511627776) && (decide (0 ≤ p) && decide (p ≤ 100000)))))
def alB (a b p : Int) : Bool := mayB a b p && decide (b * p ≤ a * 10000)
def amB (a b p : Int) : Bool := mayB a b p && decide (a * 10000 ≤ b * p)
def sMay : List Value → Option (Bool × Value) | [.int .i64 a, .int .i64 b, .int .i64 p] => some (true, .bool (mayB a b p)) | _ => none
def sAl : List Value → Option (Bool × Value) | [.int .i64 a, .int .i64 b, .int .i64 p] => some (true, .bool (alB a b p)) | _ => none
def sAm : List Value → Option (Bool × Value) | [.int .i64 a, .int .i64 b, .int .i64 p] => some (true, .bool (amB a b p)) | _ => none
def sTrue : List Value → Option (Bool × Value) | [] => some (true, .bool true) | _ => none
def tbl36 : Plain := [(36, sMay)]
def tblL : Plain := [(19, sWithin), (22, sAl), (23, sAm), (7, sTrue)]
/-- cascade/late.may -/
def il36 : FnIL := ⟨29, [.tmp 6],
  .seq (.reg [
     ⟨(some 6), none, .mov (.const (.bool false))⟩])
  (.seq (.reg [
     ⟨(some 7), none, .mov (.tmp 0)⟩,
     ⟨(some 8), none, .bin .geq (.tmp 7) (.const (.int .i64 0))⟩,
     ⟨(some 9), none, .mov (.tmp 8)⟩,
     ⟨(some 10), (some (9, true)), .mov (.tmp 0)⟩,
     ⟨(some 11), (some (9, true)), .bin .leq (.tmp 10) (.const (.int .i64 1099511627776))⟩,
     ⟨(some 12), none, .pick (.tmp 9) (.tmp 11) (.const (.bool false))⟩,
     ⟨(some 13), none, .mov (.tmp 12)⟩,
     ⟨(some 14), (some (13, true)), .mov (.tmp 1)⟩,
     ⟨(some 15), (some (13, true)), .bin .geq (.tmp 14) (.const (.int .i64 0))⟩,
     ⟨(some 16), none, .pick (.tmp 13) (.tmp 15) (.const (.bool false))⟩,
     ⟨(some 17), none, .mov (.tmp 16)⟩,
     ⟨(some 18), (some (17, true)), .mov (.tmp 1)⟩,
     ⟨(some 19), (some (17, true)), .bin .leq (.tmp 18) (.const (.int .i64 1099511627776))⟩,
     ⟨(some 20), none, .pick (.tmp 17) (.tmp 19) (.const (.bool false))⟩,
     ⟨(some 21), none, .mov (.tmp 20)⟩,
     ⟨(some 22), (some (21, true)), .mov (.tmp 2)⟩,
     ⟨(some 23), (some (21, true)), .bin .geq (.tmp 22) (.const (.int .i64 0))⟩,
     ⟨(some 24), none, .pick (.tmp 21) (.tmp 23) (.const (.bool false))⟩,
     ⟨(some 25), none, .mov (.tmp 24)⟩,
     ⟨(some 26), (some (25, true)), .mov (.tmp 2)⟩,
     ⟨(some 27), (some (25, true)), .bin .leq (.tmp 26) (.const (.int .i64 100000))⟩,
     ⟨(some 28), none, .pick (.tmp 25) (.tmp 27) (.const (.bool false))⟩,
     ⟨(some 6), none, .mov (.tmp 28)⟩])
  (.ret))⟩
theorem st36 : stF Try.prog qt 36 = some il36 := by kernel_rfl
def hn36 : Hn := (.sym (.con (.con (.sym (.con (.con (.sym (.con (.con (.sym (.con (.con (.sym (.con (.con .nil)) (.con (.con .nil))))) (.con (.con (.con (.con (.con .nil)))))))) (.con (.con (.con (.con (.con (.con (.con (.con .nil))))))))))) (.con (.con (.con (.con (.con (.con (.con (.con (.con (.con (.con .nil)))))))))))))) (.con (.con (.con (.con (.con (.con (.con (.con (.con (.con (.con (.con (.con (.con .nil)))))))))))))))
theorem tree36 (x0 x1 x2 : Int) : fnT [] noEnv 100 il36 hn36 [.int .i64 x0, .int .i64 x1, .int .i64 x2] [] =
(.br (decide (x0 ≥ 0))
 (.br (decide (x0 ≤ 1099511627776))
 (.br (decide (x1 ≥ 0))
 (.br (decide (x1 ≤ 1099511627776))
 (.br (decide (x2 ≥ 0))
 (.ret (.bool (decide (x2 ≤ 100000))) [])
 (.ret (.bool false) []))
 (.ret (.bool false) []))
 (.ret (.bool false) []))
 (.ret (.bool false) []))
 (.ret (.bool false) [])) := by kernel_rfl
/-- cascade/late.AtLeast -/
def il22 : FnIL := ⟨19, [.tmp 6],
  .seq (.reg [
     ⟨(some 6), none, .mov (.const (.bool false))⟩])
  (.seq (.reg [
     ⟨(some 7), none, .mov (.tmp 0)⟩,
     ⟨(some 8), none, .mov (.tmp 1)⟩,
     ⟨(some 9), none, .mov (.tmp 2)⟩,
     ⟨(some 10), none, .call 36 [(.tmp 7), (.tmp 8), (.tmp 9)]⟩,
     ⟨(some 11), none, .mov (.tmp 10)⟩,
     ⟨(some 12), (some (11, true)), .mov (.tmp 0)⟩,
     ⟨(some 13), (some (11, true)), .bin .mul (.tmp 12) (.const (.int .i64 10000))⟩,
     ⟨(some 14), (some (11, true)), .mov (.tmp 1)⟩,
     ⟨(some 15), (some (11, true)), .mov (.tmp 2)⟩,
     ⟨(some 16), (some (11, true)), .bin .mul (.tmp 14) (.tmp 15)⟩,
     ⟨(some 17), (some (11, true)), .bin .geq (.tmp 13) (.tmp 16)⟩,
     ⟨(some 18), none, .pick (.tmp 11) (.tmp 17) (.const (.bool false))⟩,
     ⟨(some 6), none, .mov (.tmp 18)⟩])
  (.ret))⟩
theorem st22 : stF Try.prog qt 22 = some il22 := by kernel_rfl
def hn22 : Hn := (.sym (.con (.con (.con (.con (.con (.con .nil)))))) (.con (.con (.con (.con (.con (.con .nil)))))))
theorem tree22 (x0 x1 x2 : Int) : fnT tbl36 noEnv 100 il22 hn22 [.int .i64 x0, .int .i64 x1, .int .i64 x2] [] =
(.req true (.br (mayB x0 x1 x2)
 (.ret (.bool (decide ((IntKind.wrap .i64 (x0 * 10000)) ≥ (IntKind.wrap .i64 (x1 * x2))))) [])
 (.ret (.bool false) []))) := by kernel_rfl
/-- cascade/late.AtMost -/
def il23 : FnIL := ⟨19, [.tmp 6],
  .seq (.reg [
     ⟨(some 6), none, .mov (.const (.bool false))⟩])
  (.seq (.reg [
     ⟨(some 7), none, .mov (.tmp 0)⟩,
     ⟨(some 8), none, .mov (.tmp 1)⟩,
     ⟨(some 9), none, .mov (.tmp 2)⟩,
     ⟨(some 10), none, .call 36 [(.tmp 7), (.tmp 8), (.tmp 9)]⟩,
     ⟨(some 11), none, .mov (.tmp 10)⟩,
     ⟨(some 12), (some (11, true)), .mov (.tmp 0)⟩,
     ⟨(some 13), (some (11, true)), .bin .mul (.tmp 12) (.const (.int .i64 10000))⟩,
     ⟨(some 14), (some (11, true)), .mov (.tmp 1)⟩,
     ⟨(some 15), (some (11, true)), .mov (.tmp 2)⟩,
     ⟨(some 16), (some (11, true)), .bin .mul (.tmp 14) (.tmp 15)⟩,
     ⟨(some 17), (some (11, true)), .bin .leq (.tmp 13) (.tmp 16)⟩,
     ⟨(some 18), none, .pick (.tmp 11) (.tmp 17) (.const (.bool false))⟩,
     ⟨(some 6), none, .mov (.tmp 18)⟩])
  (.ret))⟩
theorem st23 : stF Try.prog qt 23 = some il23 := by kernel_rfl
def hn23 : Hn := (.sym (.con (.con (.con (.con (.con (.con .nil)))))) (.con (.con (.con (.con (.con (.con .nil)))))))
theorem tree23 (x0 x1 x2 : Int) : fnT tbl36 noEnv 100 il23 hn23 [.int .i64 x0, .int .i64 x1, .int .i64 x2] [] =
(.req true (.br (mayB x0 x1 x2)
 (.ret (.bool (decide ((IntKind.wrap .i64 (x0 * 10000)) ≤ (IntKind.wrap .i64 (x1 * x2))))) [])
 (.ret (.bool false) []))) := by kernel_rfl
/-- cascade/cascadelaw10.LateRatios -/
def il8 : FnIL := ⟨168, [.tmp 8],
  .seq (.reg [
     ⟨(some 8), none, .mov (.const (.bool false))⟩])
  (.seq (.reg [
     ⟨(some 18), none, .mov (.tmp 0)⟩,
     ⟨(some 19), none, .call 19 [(.tmp 18), (.const (.int .i64 0)), (.const (.int .i64 1099511627776))]⟩,
     ⟨(some 20), none, .mov (.tmp 1)⟩,
     ⟨(some 21), none, .call 19 [(.tmp 20), (.const (.int .i64 0)), (.const (.int .i64 1099511627776))]⟩,
     ⟨(some 22), none, .mov (.tmp 2)⟩,
     ⟨(some 23), none, .call 19 [(.tmp 22), (.const (.int .i64 0)), (.const (.int .i64 100000))]⟩,
     ⟨(some 9), none, .mov (.tmp 19)⟩,
     ⟨(some 10), none, .mov (.tmp 21)⟩,
     ⟨(some 11), none, .mov (.tmp 23)⟩])
  (.seq (.reg [
     ⟨(some 24), none, .mov (.tmp 9)⟩,
     ⟨(some 25), none, .mov (.tmp 10)⟩,
     ⟨(some 26), none, .mov (.tmp 11)⟩,
     ⟨(some 27), none, .call 22 [(.tmp 24), (.tmp 25), (.tmp 26)]⟩,
     ⟨(some 28), none, .mov (.tmp 9)⟩,
     ⟨(some 29), none, .mov (.tmp 10)⟩,
     ⟨(some 30), none, .mov (.tmp 11)⟩,
     ⟨(some 31), none, .call 23 [(.tmp 28), (.tmp 29), (.tmp 30)]⟩,
     ⟨(some 12), none, .mov (.tmp 27)⟩,
     ⟨(some 13), none, .mov (.tmp 31)⟩])
  (.seq (.seq (.reg [
      ⟨(some 32), none, .mov (.tmp 12)⟩,
      ⟨(some 33), none, .mov (.tmp 9)⟩,
      ⟨(some 34), none, .bin .mul (.tmp 33) (.const (.int .i64 10000))⟩,
      ⟨(some 35), none, .mov (.tmp 10)⟩,
      ⟨(some 36), none, .mov (.tmp 11)⟩,
      ⟨(some 37), none, .bin .mul (.tmp 35) (.tmp 36)⟩,
      ⟨(some 38), none, .bin .geq (.tmp 34) (.tmp 37)⟩,
      ⟨(some 39), none, .eqv true .bool (.tmp 32) (.tmp 38)⟩,
      ⟨(some 40), none, .mov (.tmp 39)⟩,
      ⟨(some 41), (some (40, false)), .mov (.tmp 13)⟩,
      ⟨(some 42), (some (40, false)), .mov (.tmp 9)⟩,
      ⟨(some 43), (some (40, false)), .bin .mul (.tmp 42) (.const (.int .i64 10000))⟩,
      ⟨(some 44), (some (40, false)), .mov (.tmp 10)⟩,
      ⟨(some 45), (some (40, false)), .mov (.tmp 11)⟩,
      ⟨(some 46), (some (40, false)), .bin .mul (.tmp 44) (.tmp 45)⟩,
      ⟨(some 47), (some (40, false)), .bin .leq (.tmp 43) (.tmp 46)⟩,
      ⟨(some 48), (some (40, false)), .eqv true .bool (.tmp 41) (.tmp 47)⟩,
      ⟨(some 49), none, .pick (.tmp 40) (.const (.bool true)) (.tmp 48)⟩])
   (.ite (.tmp 49)
     (.seq (.reg [
        ⟨(some 8), none, .mov (.const (.bool false))⟩])
     (.ret))
     (.skip)))
  (.seq (.reg [
     ⟨(some 50), none, .mov (.tmp 3)⟩,
     ⟨(some 51), none, .mov (.tmp 9)⟩,
     ⟨(some 52), none, .bin .sub (.const (.int .i64 1099511627776)) (.tmp 51)⟩,
     ⟨(some 53), none, .call 19 [(.tmp 50), (.const (.int .i64 0)), (.tmp 52)]⟩,
     ⟨(some 14), none, .mov (.tmp 53)⟩])
  (.seq (.seq (.reg [
      ⟨(some 54), none, .mov (.tmp 12)⟩,
      ⟨(some 55), none, .mov (.tmp 54)⟩,
      ⟨(some 56), (some (55, true)), .mov (.tmp 9)⟩,
      ⟨(some 57), (some (55, true)), .mov (.tmp 14)⟩,
      ⟨(some 58), (some (55, true)), .bin .add (.tmp 56) (.tmp 57)⟩,
      ⟨(some 59), (some (55, true)), .mov (.tmp 10)⟩,
      ⟨(some 60), (some (55, true)), .mov (.tmp 11)⟩,
      ⟨(some 61), (some (55, true)), .call 22 [(.tmp 58), (.tmp 59), (.tmp 60)]⟩,
      ⟨(some 62), (some (55, true)), .un .not (.tmp 61)⟩,
      ⟨(some 63), none, .pick (.tmp 55) (.tmp 62) (.const (.bool false))⟩,
      ⟨(some 64), none, .mov (.tmp 63)⟩,
      ⟨(some 65), (some (64, false)), .mov (.tmp 13)⟩,
      ⟨(some 66), (some (64, false)), .un .not (.tmp 65)⟩,
      ⟨(some 67), (some (64, false)), .mov (.tmp 66)⟩,
      ⟨(some 68), (some (67, true)), .mov (.tmp 9)⟩,
      ⟨(some 69), (some (67, true)), .mov (.tmp 14)⟩,
      ⟨(some 70), (some (67, true)), .bin .add (.tmp 68) (.tmp 69)⟩,
      ⟨(some 71), (some (67, true)), .mov (.tmp 10)⟩,
      ⟨(some 72), (some (67, true)), .mov (.tmp 11)⟩,
      ⟨(some 73), (some (67, true)), .call 23 [(.tmp 70), (.tmp 71), (.tmp 72)]⟩,
      ⟨(some 74), (some (64, false)), .pick (.tmp 67) (.tmp 73) (.const (.bool false))⟩,
      ⟨(some 75), none, .pick (.tmp 64) (.const (.bool true)) (.tmp 74)⟩])
   (.ite (.tmp 75)
     (.seq (.reg [
        ⟨(some 8), none, .mov (.const (.bool false))⟩])
     (.ret))
     (.skip)))
  (.seq (.reg [
     ⟨(some 76), none, .mov (.tmp 3)⟩,
     ⟨(some 77), none, .call 19 [(.tmp 76), (.const (.int .i64 0)), (.const (.int .i64 1125899906842624))]⟩,
     ⟨(some 78), none, .bin .add (.const (.int .i64 1)) (.tmp 77)⟩,
     ⟨(some 15), none, .mov (.tmp 78)⟩])
  (.seq (.reg [
     ⟨(some 79), none, .mov (.tmp 15)⟩,
     ⟨(some 80), none, .un .neg (.tmp 79)⟩,
     ⟨(some 81), none, .mov (.tmp 10)⟩,
     ⟨(some 82), none, .mov (.tmp 11)⟩,
     ⟨(some 83), none, .call 22 [(.tmp 80), (.tmp 81), (.tmp 82)]⟩,
     ⟨(some 84), none, .mov (.tmp 83)⟩,
     ⟨(some 85), (some (84, false)), .mov (.tmp 15)⟩,
     ⟨(some 86), (some (84, false)), .bin .add (.const (.int .i64 1099511627776)) (.tmp 85)⟩,
     ⟨(some 87), (some (84, false)), .mov (.tmp 10)⟩,
     ⟨(some 88), (some (84, false)), .mov (.tmp 11)⟩,
     ⟨(some 89), (some (84, false)), .call 22 [(.tmp 86), (.tmp 87), (.tmp 88)]⟩,
     ⟨(some 90), none, .pick (.tmp 84) (.const (.bool true)) (.tmp 89)⟩,
     ⟨(some 91), none, .mov (.tmp 90)⟩,
     ⟨(some 92), (some (91, false)), .mov (.tmp 9)⟩,
     ⟨(some 93), (some (91, false)), .mov (.tmp 15)⟩,
     ⟨(some 94), (some (91, false)), .un .neg (.tmp 93)⟩,
     ⟨(some 95), (some (91, false)), .mov (.tmp 11)⟩,
     ⟨(some 96), (some (91, false)), .call 22 [(.tmp 92), (.tmp 94), (.tmp 95)]⟩,
     ⟨(some 97), none, .pick (.tmp 91) (.const (.bool true)) (.tmp 96)⟩,
     ⟨(some 98), none, .mov (.tmp 97)⟩,
     ⟨(some 99), (some (98, false)), .mov (.tmp 9)⟩,
     ⟨(some 100), (some (98, false)), .mov (.tmp 15)⟩,
     ⟨(some 101), (some (98, false)), .bin .add (.const (.int .i64 1099511627776)) (.tmp 100)⟩,
     ⟨(some 102), (some (98, false)), .mov (.tmp 11)⟩,
     ⟨(some 103), (some (98, false)), .call 22 [(.tmp 99), (.tmp 101), (.tmp 102)]⟩,
     ⟨(some 104), none, .pick (.tmp 98) (.const (.bool true)) (.tmp 103)⟩,
     ⟨(some 105), none, .mov (.tmp 104)⟩,
     ⟨(some 106), (some (105, false)), .mov (.tmp 9)⟩,
     ⟨(some 107), (some (105, false)), .mov (.tmp 10)⟩,
     ⟨(some 108), (some (105, false)), .mov (.tmp 15)⟩,
     ⟨(some 109), (some (105, false)), .un .neg (.tmp 108)⟩,
     ⟨(some 110), (some (105, false)), .call 22 [(.tmp 106), (.tmp 107), (.tmp 109)]⟩,
     ⟨(some 111), none, .pick (.tmp 105) (.const (.bool true)) (.tmp 110)⟩,
     ⟨(some 112), none, .mov (.tmp 111)⟩,
     ⟨(some 113), (some (112, false)), .mov (.tmp 9)⟩,
     ⟨(some 114), (some (112, false)), .mov (.tmp 10)⟩,
     ⟨(some 115), (some (112, false)), .mov (.tmp 15)⟩,
     ⟨(some 116), (some (112, false)), .bin .add (.const (.int .i64 100000)) (.tmp 115)⟩,
     ⟨(some 117), (some (112, false)), .call 22 [(.tmp 113), (.tmp 114), (.tmp 116)]⟩,
     ⟨(some 118), none, .pick (.tmp 112) (.const (.bool true)) (.tmp 117)⟩,
     ⟨(some 16), none, .mov (.tmp 118)⟩])
  (.seq (.reg [
     ⟨(some 119), none, .mov (.tmp 15)⟩,
     ⟨(some 120), none, .un .neg (.tmp 119)⟩,
     ⟨(some 121), none, .mov (.tmp 10)⟩,
     ⟨(some 122), none, .mov (.tmp 11)⟩,
     ⟨(some 123), none, .call 23 [(.tmp 120), (.tmp 121), (.tmp 122)]⟩,
     ⟨(some 124), none, .mov (.tmp 123)⟩,
     ⟨(some 125), (some (124, false)), .mov (.tmp 15)⟩,
     ⟨(some 126), (some (124, false)), .bin .add (.const (.int .i64 1099511627776)) (.tmp 125)⟩,
     ⟨(some 127), (some (124, false)), .mov (.tmp 10)⟩,
     ⟨(some 128), (some (124, false)), .mov (.tmp 11)⟩,
     ⟨(some 129), (some (124, false)), .call 23 [(.tmp 126), (.tmp 127), (.tmp 128)]⟩,
     ⟨(some 130), none, .pick (.tmp 124) (.const (.bool true)) (.tmp 129)⟩,
     ⟨(some 131), none, .mov (.tmp 130)⟩,
     ⟨(some 132), (some (131, false)), .mov (.tmp 9)⟩,
     ⟨(some 133), (some (131, false)), .mov (.tmp 15)⟩,
     ⟨(some 134), (some (131, false)), .un .neg (.tmp 133)⟩,
     ⟨(some 135), (some (131, false)), .mov (.tmp 11)⟩,
     ⟨(some 136), (some (131, false)), .call 23 [(.tmp 132), (.tmp 134), (.tmp 135)]⟩,
     ⟨(some 137), none, .pick (.tmp 131) (.const (.bool true)) (.tmp 136)⟩,
     ⟨(some 138), none, .mov (.tmp 137)⟩,
     ⟨(some 139), (some (138, false)), .mov (.tmp 9)⟩,
     ⟨(some 140), (some (138, false)), .mov (.tmp 15)⟩,
     ⟨(some 141), (some (138, false)), .bin .add (.const (.int .i64 1099511627776)) (.tmp 140)⟩,
     ⟨(some 142), (some (138, false)), .mov (.tmp 11)⟩,
     ⟨(some 143), (some (138, false)), .call 23 [(.tmp 139), (.tmp 141), (.tmp 142)]⟩,
     ⟨(some 144), none, .pick (.tmp 138) (.const (.bool true)) (.tmp 143)⟩,
     ⟨(some 145), none, .mov (.tmp 144)⟩,
     ⟨(some 146), (some (145, false)), .mov (.tmp 9)⟩,
     ⟨(some 147), (some (145, false)), .mov (.tmp 10)⟩,
     ⟨(some 148), (some (145, false)), .mov (.tmp 15)⟩,
     ⟨(some 149), (some (145, false)), .un .neg (.tmp 148)⟩,
     ⟨(some 150), (some (145, false)), .call 23 [(.tmp 146), (.tmp 147), (.tmp 149)]⟩,
     ⟨(some 151), none, .pick (.tmp 145) (.const (.bool true)) (.tmp 150)⟩,
     ⟨(some 152), none, .mov (.tmp 151)⟩,
     ⟨(some 153), (some (152, false)), .mov (.tmp 9)⟩,
     ⟨(some 154), (some (152, false)), .mov (.tmp 10)⟩,
     ⟨(some 155), (some (152, false)), .mov (.tmp 15)⟩,
     ⟨(some 156), (some (152, false)), .bin .add (.const (.int .i64 100000)) (.tmp 155)⟩,
     ⟨(some 157), (some (152, false)), .call 23 [(.tmp 153), (.tmp 154), (.tmp 156)]⟩,
     ⟨(some 158), none, .pick (.tmp 152) (.const (.bool true)) (.tmp 157)⟩,
     ⟨(some 17), none, .mov (.tmp 158)⟩])
  (.seq (.reg [
     ⟨(some 159), none, .mov (.tmp 16)⟩,
     ⟨(some 160), none, .un .not (.tmp 159)⟩,
     ⟨(some 161), none, .mov (.tmp 160)⟩,
     ⟨(some 162), (some (161, true)), .mov (.tmp 17)⟩,
     ⟨(some 163), (some (161, true)), .un .not (.tmp 162)⟩,
     ⟨(some 164), none, .pick (.tmp 161) (.tmp 163) (.const (.bool false))⟩,
     ⟨(some 165), none, .mov (.tmp 164)⟩,
     ⟨(some 166), (some (165, true)), .call 7 []⟩,
     ⟨(some 167), none, .pick (.tmp 165) (.tmp 166) (.const (.bool false))⟩,
     ⟨(some 8), none, .mov (.tmp 167)⟩])
  (.ret))))))))))⟩
theorem st8 : stF Try.prog qt 8 = some il8 := by kernel_rfl
def hn8 : Hn := (.sym (.con (.con (.con (.con (.con (.con (.con (.con (.con .nil))))))))) (.con (.con (.con (.con (.con (.con (.con (.con (.sym .nil (.sym (.con (.con (.con (.con (.con (.con (.con (.sym (.con (.con (.con (.con (.con .nil))))) (.con (.con (.sym (.con (.con (.con (.con (.con (.con (.con (.con (.sym .nil (.no (.con (.con (.con (.con (.con (.no (.con (.con (.con (.con (.con (.no (.con (.con (.con (.con (.con (.no (.con (.con (.con (.con (.con (.no (.con (.con (.con (.con (.con (.no (.con (.con (.con (.con (.con (.no (.con (.con (.con (.con (.con (.no (.con (.con (.con (.con (.con (.no (.con (.con (.con (.con (.con (.no (.con (.con (.con (.con (.con (.yes (.con (.con (.yes (.con .nil)))))))))))))))))))))))))))))))))))))))))))))))))))))))))))))))))))))))))) (.con (.con (.con (.con (.con (.con (.con (.con (.con (.no (.con (.con (.con (.con (.con (.no (.con (.con (.con (.con (.con (.no (.con (.con (.con (.con (.con (.no (.con (.con (.con (.con (.con (.no (.con (.con (.con (.con (.con (.no (.con (.con (.con (.con (.con (.no (.con (.con (.con (.con (.con (.no (.con (.con (.con (.con (.con (.no (.con (.con (.con (.con (.con (.no (.con (.con (.con (.con (.con (.yes (.con (.con (.yes (.con .nil))))))))))))))))))))))))))))))))))))))))))))))))))))))))))))))))))))))))))))))))))))) (.con (.con (.con (.con (.con (.con (.con (.con (.con (.con (.sym (.con (.con (.con (.con (.con (.con (.con (.con (.sym .nil (.no (.con (.con (.con (.con (.con (.no (.con (.con (.con (.con (.con (.no (.con (.con (.con (.con (.con (.no (.con (.con (.con (.con (.con (.no (.con (.con (.con (.con (.con (.no (.con (.con (.con (.con (.con (.no (.con (.con (.con (.con (.con (.no (.con (.con (.con (.con (.con (.no (.con (.con (.con (.con (.con (.no (.con (.con (.con (.con (.con (.yes (.con (.con (.yes (.con .nil)))))))))))))))))))))))))))))))))))))))))))))))))))))))))))))))))))))))))) (.con (.con (.con (.con (.con (.con (.con (.con (.con (.no (.con (.con (.con (.con (.con (.no (.con (.con (.con (.con (.con (.no (.con (.con (.con (.con (.con (.no (.con (.con (.con (.con (.con (.no (.con (.con (.con (.con (.con (.no (.con (.con (.con (.con (.con (.no (.con (.con (.con (.con (.con (.no (.con (.con (.con (.con (.con (.no (.con (.con (.con (.con (.con (.no (.con (.con (.con (.con (.con (.yes (.con (.con (.yes (.con .nil))))))))))))))))))))))))))))))))))))))))))))))))))))))))))))))))))))))))))))))))))))))))))))))))
theorem tree8 (x0 x1 x2 x3 : Int) : fnT tblL noEnv 100 il8 hn8 [.int .i64 x0, .int .i64 x1, .int .i64 x2, .int .i64 x3] [] =
(.req (preWithin 0 1099511627776) (.req (preWithin 0 1099511627776) (.req (preWithin 0 100000) (.req true (.req true (.br (!((alB (wn x0 0 1099511627776) (wn x1 0 1099511627776) (wn x2 0 100000)) == (decide ((IntKind.wrap .i64 ((wn x0 0 1099511627776) * 10000)) ≥ (IntKind.wrap .i64 ((wn x1 0 1099511627776) * (wn x2 0 100000)))))))
 (.ret (.bool false) [])
 (.br (!((amB (wn x0 0 1099511627776) (wn x1 0 1099511627776) (wn x2 0 100000)) == (decide ((IntKind.wrap .i64 ((wn x0 0 1099511627776) * 10000)) ≤ (IntKind.wrap .i64 ((wn x1 0 1099511627776) * (wn x2 0 100000)))))))
 (.ret (.bool false) [])
 (.req (preWithin 0 (IntKind.wrap .i64 (1099511627776 - (wn x0 0 1099511627776)))) (.br (alB (wn x0 0 1099511627776) (wn x1 0 1099511627776) (wn x2 0 100000))
 (.req true (.br (!(alB (IntKind.wrap .i64 ((wn x0 0 1099511627776) + (wn x3 0 (IntKind.wrap .i64 (1099511627776 - (wn x0 0 1099511627776)))))) (wn x1 0 1099511627776) (wn x2 0 100000)))
 (.ret (.bool false) [])
 (.br (!(amB (wn x0 0 1099511627776) (wn x1 0 1099511627776) (wn x2 0 100000)))
 (.req true (.br (amB (IntKind.wrap .i64 ((wn x0 0 1099511627776) + (wn x3 0 (IntKind.wrap .i64 (1099511627776 - (wn x0 0 1099511627776)))))) (wn x1 0 1099511627776) (wn x2 0 100000))
 (.ret (.bool false) [])
 (.req (preWithin 0 1125899906842624) (.req true (.req (!(alB (IntKind.wrap .i64 (0 - (IntKind.wrap .i64 (1 + (wn x3 0 1125899906842624))))) (wn x1 0 1099511627776) (wn x2 0 100000))) (.req true (.req (!(alB (IntKind.wrap .i64 (1099511627776 + (IntKind.wrap .i64 (1 + (wn x3 0 1125899906842624))))) (wn x1 0 1099511627776) (wn x2 0 100000))) (.req true (.req (!(alB (wn x0 0 1099511627776) (IntKind.wrap .i64 (0 - (IntKind.wrap .i64 (1 + (wn x3 0 1125899906842624))))) (wn x2 0 100000))) (.req true (.req (!(alB (wn x0 0 1099511627776) (IntKind.wrap .i64 (1099511627776 + (IntKind.wrap .i64 (1 + (wn x3 0 1125899906842624))))) (wn x2 0 100000))) (.req true (.req (!(alB (wn x0 0 1099511627776) (wn x1 0 1099511627776) (IntKind.wrap .i64 (0 - (IntKind.wrap .i64 (1 + (wn x3 0 1125899906842624))))))) (.req true (.req true (.req (!(amB (IntKind.wrap .i64 (0 - (IntKind.wrap .i64 (1 + (wn x3 0 1125899906842624))))) (wn x1 0 1099511627776) (wn x2 0 100000))) (.req true (.req (!(amB (IntKind.wrap .i64 (1099511627776 + (IntKind.wrap .i64 (1 + (wn x3 0 1125899906842624))))) (wn x1 0 1099511627776) (wn x2 0 100000))) (.req true (.req (!(amB (wn x0 0 1099511627776) (IntKind.wrap .i64 (0 - (IntKind.wrap .i64 (1 + (wn x3 0 1125899906842624))))) (wn x2 0 100000))) (.req true (.req (!(amB (wn x0 0 1099511627776) (IntKind.wrap .i64 (1099511627776 + (IntKind.wrap .i64 (1 + (wn x3 0 1125899906842624))))) (wn x2 0 100000))) (.req true (.req (!(amB (wn x0 0 1099511627776) (wn x1 0 1099511627776) (IntKind.wrap .i64 (0 - (IntKind.wrap .i64 (1 + (wn x3 0 1125899906842624))))))) (.req true (.req (!(alB (wn x0 0 1099511627776) (wn x1 0 1099511627776) (IntKind.wrap .i64 (100000 + (IntKind.wrap .i64 (1 + (wn x3 0 1125899906842624))))))) (.req (!(amB (wn x0 0 1099511627776) (wn x1 0 1099511627776) (IntKind.wrap .i64 (100000 + (IntKind.wrap .i64 (1 + (wn x3 0 1125899906842624))))))) (.req true (.ret (.bool true) [])))))))))))))))))))))))))))))
 (.req (preWithin 0 1125899906842624) (.req true (.req (!(alB (IntKind.wrap .i64 (0 - (IntKind.wrap .i64 (1 + (wn x3 0 1125899906842624))))) (wn x1 0 1099511627776) (wn x2 0 100000))) (.req true (.req (!(alB (IntKind.wrap .i64 (1099511627776 + (IntKind.wrap .i64 (1 + (wn x3 0 1125899906842624))))) (wn x1 0 1099511627776) (wn x2 0 100000))) (.req true (.req (!(alB (wn x0 0 1099511627776) (IntKind.wrap .i64 (0 - (IntKind.wrap .i64 (1 + (wn x3 0 1125899906842624))))) (wn x2 0 100000))) (.req true (.req (!(alB (wn x0 0 1099511627776) (IntKind.wrap .i64 (1099511627776 + (IntKind.wrap .i64 (1 + (wn x3 0 1125899906842624))))) (wn x2 0 100000))) (.req true (.req (!(alB (wn x0 0 1099511627776) (wn x1 0 1099511627776) (IntKind.wrap .i64 (0 - (IntKind.wrap .i64 (1 + (wn x3 0 1125899906842624))))))) (.req true (.req true (.req (!(amB (IntKind.wrap .i64 (0 - (IntKind.wrap .i64 (1 + (wn x3 0 1125899906842624))))) (wn x1 0 1099511627776) (wn x2 0 100000))) (.req true (.req (!(amB (IntKind.wrap .i64 (1099511627776 + (IntKind.wrap .i64 (1 + (wn x3 0 1125899906842624))))) (wn x1 0 1099511627776) (wn x2 0 100000))) (.req true (.req (!(amB (wn x0 0 1099511627776) (IntKind.wrap .i64 (0 - (IntKind.wrap .i64 (1 + (wn x3 0 1125899906842624))))) (wn x2 0 100000))) (.req true (.req (!(amB (wn x0 0 1099511627776) (IntKind.wrap .i64 (1099511627776 + (IntKind.wrap .i64 (1 + (wn x3 0 1125899906842624))))) (wn x2 0 100000))) (.req true (.req (!(amB (wn x0 0 1099511627776) (wn x1 0 1099511627776) (IntKind.wrap .i64 (0 - (IntKind.wrap .i64 (1 + (wn x3 0 1125899906842624))))))) (.req true (.req (!(alB (wn x0 0 1099511627776) (wn x1 0 1099511627776) (IntKind.wrap .i64 (100000 + (IntKind.wrap .i64 (1 + (wn x3 0 1125899906842624))))))) (.req (!(amB (wn x0 0 1099511627776) (wn x1 0 1099511627776) (IntKind.wrap .i64 (100000 + (IntKind.wrap .i64 (1 + (wn x3 0 1125899906842624))))))) (.req true (.ret (.bool true) []))))))))))))))))))))))))))))))
 (.br (!(amB (wn x0 0 1099511627776) (wn x1 0 1099511627776) (wn x2 0 100000)))
 (.req true (.br (amB (IntKind.wrap .i64 ((wn x0 0 1099511627776) + (wn x3 0 (IntKind.wrap .i64 (1099511627776 - (wn x0 0 1099511627776)))))) (wn x1 0 1099511627776) (wn x2 0 100000))
 (.ret (.bool false) [])
 (.req (preWithin 0 1125899906842624) (.req true (.req (!(alB (IntKind.wrap .i64 (0 - (IntKind.wrap .i64 (1 + (wn x3 0 1125899906842624))))) (wn x1 0 1099511627776) (wn x2 0 100000))) (.req true (.req (!(alB (IntKind.wrap .i64 (1099511627776 + (IntKind.wrap .i64 (1 + (wn x3 0 1125899906842624))))) (wn x1 0 1099511627776) (wn x2 0 100000))) (.req true (.req (!(alB (wn x0 0 1099511627776) (IntKind.wrap .i64 (0 - (IntKind.wrap .i64 (1 + (wn x3 0 1125899906842624))))) (wn x2 0 100000))) (.req true (.req (!(alB (wn x0 0 1099511627776) (IntKind.wrap .i64 (1099511627776 + (IntKind.wrap .i64 (1 + (wn x3 0 1125899906842624))))) (wn x2 0 100000))) (.req true (.req (!(alB (wn x0 0 1099511627776) (wn x1 0 1099511627776) (IntKind.wrap .i64 (0 - (IntKind.wrap .i64 (1 + (wn x3 0 1125899906842624))))))) (.req true (.req true (.req (!(amB (IntKind.wrap .i64 (0 - (IntKind.wrap .i64 (1 + (wn x3 0 1125899906842624))))) (wn x1 0 1099511627776) (wn x2 0 100000))) (.req true (.req (!(amB (IntKind.wrap .i64 (1099511627776 + (IntKind.wrap .i64 (1 + (wn x3 0 1125899906842624))))) (wn x1 0 1099511627776) (wn x2 0 100000))) (.req true (.req (!(amB (wn x0 0 1099511627776) (IntKind.wrap .i64 (0 - (IntKind.wrap .i64 (1 + (wn x3 0 1125899906842624))))) (wn x2 0 100000))) (.req true (.req (!(amB (wn x0 0 1099511627776) (IntKind.wrap .i64 (1099511627776 + (IntKind.wrap .i64 (1 + (wn x3 0 1125899906842624))))) (wn x2 0 100000))) (.req true (.req (!(amB (wn x0 0 1099511627776) (wn x1 0 1099511627776) (IntKind.wrap .i64 (0 - (IntKind.wrap .i64 (1 + (wn x3 0 1125899906842624))))))) (.req true (.req (!(alB (wn x0 0 1099511627776) (wn x1 0 1099511627776) (IntKind.wrap .i64 (100000 + (IntKind.wrap .i64 (1 + (wn x3 0 1125899906842624))))))) (.req (!(amB (wn x0 0 1099511627776) (wn x1 0 1099511627776) (IntKind.wrap .i64 (100000 + (IntKind.wrap .i64 (1 + (wn x3 0 1125899906842624))))))) (.req true (.ret (.bool true) [])))))))))))))))))))))))))))))
 (.req (preWithin 0 1125899906842624) (.req true (.req (!(alB (IntKind.wrap .i64 (0 - (IntKind.wrap .i64 (1 + (wn x3 0 1125899906842624))))) (wn x1 0 1099511627776) (wn x2 0 100000))) (.req true (.req (!(alB (IntKind.wrap .i64 (1099511627776 + (IntKind.wrap .i64 (1 + (wn x3 0 1125899906842624))))) (wn x1 0 1099511627776) (wn x2 0 100000))) (.req true (.req (!(alB (wn x0 0 1099511627776) (IntKind.wrap .i64 (0 - (IntKind.wrap .i64 (1 + (wn x3 0 1125899906842624))))) (wn x2 0 100000))) (.req true (.req (!(alB (wn x0 0 1099511627776) (IntKind.wrap .i64 (1099511627776 + (IntKind.wrap .i64 (1 + (wn x3 0 1125899906842624))))) (wn x2 0 100000))) (.req true (.req (!(alB (wn x0 0 1099511627776) (wn x1 0 1099511627776) (IntKind.wrap .i64 (0 - (IntKind.wrap .i64 (1 + (wn x3 0 1125899906842624))))))) (.req true (.req true (.req (!(amB (IntKind.wrap .i64 (0 - (IntKind.wrap .i64 (1 + (wn x3 0 1125899906842624))))) (wn x1 0 1099511627776) (wn x2 0 100000))) (.req true (.req (!(amB (IntKind.wrap .i64 (1099511627776 + (IntKind.wrap .i64 (1 + (wn x3 0 1125899906842624))))) (wn x1 0 1099511627776) (wn x2 0 100000))) (.req true (.req (!(amB (wn x0 0 1099511627776) (IntKind.wrap .i64 (0 - (IntKind.wrap .i64 (1 + (wn x3 0 1125899906842624))))) (wn x2 0 100000))) (.req true (.req (!(amB (wn x0 0 1099511627776) (IntKind.wrap .i64 (1099511627776 + (IntKind.wrap .i64 (1 + (wn x3 0 1125899906842624))))) (wn x2 0 100000))) (.req true (.req (!(amB (wn x0 0 1099511627776) (wn x1 0 1099511627776) (IntKind.wrap .i64 (0 - (IntKind.wrap .i64 (1 + (wn x3 0 1125899906842624))))))) (.req true (.req (!(alB (wn x0 0 1099511627776) (wn x1 0 1099511627776) (IntKind.wrap .i64 (100000 + (IntKind.wrap .i64 (1 + (wn x3 0 1125899906842624))))))) (.req (!(amB (wn x0 0 1099511627776) (wn x1 0 1099511627776) (IntKind.wrap .i64 (100000 + (IntKind.wrap .i64 (1 + (wn x3 0 1125899906842624))))))) (.req true (.ret (.bool true) []))))))))))))))))))))))))))))))))))))) := by kernel_rfl
theorem st19 : stF Try.prog qt 19 = some ilWithin := by kernel_rfl
theorem may_true {a b p : Int} (h1 : 0 ≤ a) (h2 : a ≤ 1099511627776) (h3 : 0 ≤ b) (h4 : b ≤ 1099511627776) (h5 : 0 ≤ p) (h6 : p ≤ 100000) : mayB a b p = true := by simp [mayB, *]
theorem al_no {a b p : Int} (h : a < 0 ∨ 1099511627776 < a ∨ b < 0 ∨ 1099511627776 < b ∨ p < 0 ∨ 100000 < p) : alB a b p = false ∧ amB a b p = false := by
  have : mayB a b p = false := by
    cases hm : mayB a b p with
    | false => rfl
    | true => simp [mayB] at hm; omega
  simp [alB, amB, this]
theorem law8 (x0 x1 x2 x3 : Int) : (fnT tblL noEnv 100 il8 hn8 [.int .i64 x0, .int .i64 x1, .int .i64 x2, .int .i64 x3] []).holds fun v _ => v = .bool true := by
  rw [tree8]
  have bx0 := wn_lo (x := x0) (lo := 0) (hi := 1099511627776) (by omega)
  have bx1 := wn_hi (x := x0) (lo := 0) (hi := 1099511627776) (by omega)
  have by0 := wn_lo (x := x1) (lo := 0) (hi := 1099511627776) (by omega)
  have by1 := wn_hi (x := x1) (lo := 0) (hi := 1099511627776) (by omega)
  have bp0 := wn_lo (x := x2) (lo := 0) (hi := 100000) (by omega)
  have bp1 := wn_hi (x := x2) (lo := 0) (hi := 100000) (by omega)
  have bn0 := wn_lo (x := x3) (lo := 0) (hi := 1125899906842624) (by omega)
  have bn1 := wn_hi (x := x3) (lo := 0) (hi := 1125899906842624) (by omega)
  generalize wn x0 0 1099511627776 = x at *
  generalize wn x1 0 1099511627776 = y at *
  generalize wn x2 0 100000 = p at *
  generalize wn x3 0 1125899906842624 = n at *
  have w1 : IntKind.wrap .i64 (1099511627776 - x) = 1099511627776 - x := wrap_id (by omega) (by omega)
  rw [w1]
  have bm0 := wn_lo (x := x3) (lo := 0) (hi := 1099511627776 - x) (by omega)
  have bm1 := wn_hi (x := x3) (lo := 0) (hi := 1099511627776 - x) (by omega)
  generalize wn x3 0 (1099511627776 - x) = m at *
  have q0 : 0 ≤ y * p := Int.mul_nonneg by0 bp0
  have q1 : y * p ≤ 1099511627776 * 100000 := Int.mul_le_mul by1 bp1 bp0 (by omega)
  have w2 : IntKind.wrap .i64 (x * 10000) = x * 10000 := wrap_id (by omega) (by omega)
  have w3 : IntKind.wrap .i64 (y * p) = y * p := wrap_id (by omega) (by omega)
  have w4 : IntKind.wrap .i64 (x + m) = x + m := wrap_id (by omega) (by omega)
  have w5 : IntKind.wrap .i64 (1 + n) = 1 + n := wrap_id (by omega) (by omega)
  have w6 : IntKind.wrap .i64 (0 - (1 + n)) = 0 - (1 + n) := wrap_id (by omega) (by omega)
  have w7 : IntKind.wrap .i64 (1099511627776 + (1 + n)) = 1099511627776 + (1 + n) := wrap_id (by omega) (by omega)
  have w8 : IntKind.wrap .i64 (100000 + (1 + n)) = 100000 + (1 + n) := wrap_id (by omega) (by omega)
  have a1 : alB x y p = decide (y * p ≤ x * 10000) := by simp [alB, may_true bx0 bx1 by0 by1 bp0 bp1]
  have a2 : amB x y p = decide (x * 10000 ≤ y * p) := by simp [amB, may_true bx0 bx1 by0 by1 bp0 bp1]
  have a3 : alB (x + m) y p = decide (y * p ≤ (x + m) * 10000) := by simp [alB, may_true (show 0 ≤ x + m by omega) (by omega) by0 by1 bp0 bp1]
  have a4 : amB (x + m) y p = decide ((x + m) * 10000 ≤ y * p) := by simp [amB, may_true (show 0 ≤ x + m by omega) (by omega) by0 by1 bp0 bp1]
  have n1 := al_no (a := 0 - (1 + n)) (b := y) (p := p) (by omega)
  have n2 := al_no (a := 1099511627776 + (1 + n)) (b := y) (p := p) (by omega)
  have n3 := al_no (a := x) (b := 0 - (1 + n)) (p := p) (by omega)
  have n4 := al_no (a := x) (b := 1099511627776 + (1 + n)) (p := p) (by omega)
  have n5 := al_no (a := x) (b := y) (p := 0 - (1 + n)) (by omega)
  have n6 := al_no (a := x) (b := y) (p := 100000 + (1 + n)) (by omega)
  have r1 : preWithin 0 1099511627776 = true := by decide
  have r2 : preWithin 0 100000 = true := by decide
  have r3 : preWithin 0 1125899906842624 = true := by decide
  have r4 : preWithin 0 (1099511627776 - x) = true := by simp [preWithin]; omega
  simp only [Tr.holds, w2, w3, w4, w5, w6, w7, w8, a1, a2, a3, a4, n1.1, n1.2, n2.1, n2.2, n3.1, n3.2, n4.1, n4.2, n5.1, n5.2, n6.1, n6.2, r1, r2, r3, r4, true_and, Bool.not_false, implies_true, and_true, ge_iff_le, Bool.not_eq_true', Bool.not_eq_false', decide_eq_true_eq, decide_eq_false_iff_not, BEq.rfl]
  generalize y * p = z at *
  simp
  omega
theorem may_holds (x0 x1 x2 : Int) : (fnT [] noEnv 100 il36 hn36 [.int .i64 x0, .int .i64 x1, .int .i64 x2] []).holds fun v _ => v = .bool (mayB x0 x1 x2) := by
  rw [tree36]
  by_cases h1 : 0 ≤ x0
  · by_cases h2 : x0 ≤ 1099511627776
    · by_cases h3 : 0 ≤ x1
      · by_cases h4 : x1 ≤ 1099511627776
        · by_cases h5 : 0 ≤ x2 <;> simp [Tr.holds, mayB, h1, h2, h3, h4, h5]
        · simp [Tr.holds, mayB, h1, h2, h3, h4]
      · simp [Tr.holds, mayB, h1, h2, h3]
    · simp [Tr.holds, mayB, h1, h2]
  · simp [Tr.holds, mayB, h1]
theorem al_holds (x0 x1 x2 : Int) : (fnT tbl36 noEnv 100 il22 hn22 [.int .i64 x0, .int .i64 x1, .int .i64 x2] []).holds fun v _ => v = .bool (alB x0 x1 x2) := by
  rw [tree22]
  simp only [Tr.holds, alB, true_and]
  refine ⟨fun h => ?_, fun h => by rw [h]; rfl⟩
  rw [h]
  simp only [mayB, Bool.and_eq_true, decide_eq_true_eq] at h
  have q0 : 0 ≤ x1 * x2 := Int.mul_nonneg (by omega) (by omega)
  have q1 : x1 * x2 ≤ 1099511627776 * 100000 := Int.mul_le_mul (by omega) (by omega) (by omega) (by omega)
  rw [wrap_id (n := x0 * 10000) (by omega) (by omega), wrap_id (n := x1 * x2) (by omega) (by omega)]
  simp
theorem am_holds (x0 x1 x2 : Int) : (fnT tbl36 noEnv 100 il23 hn23 [.int .i64 x0, .int .i64 x1, .int .i64 x2] []).holds fun v _ => v = .bool (amB x0 x1 x2) := by
  rw [tree23]
  simp only [Tr.holds, amB, true_and]
  refine ⟨fun h => ?_, fun h => by rw [h]; rfl⟩
  rw [h]
  simp only [mayB, Bool.and_eq_true, decide_eq_true_eq] at h
  have q0 : 0 ≤ x1 * x2 := Int.mul_nonneg (by omega) (by omega)
  have q1 : x1 * x2 ≤ 1099511627776 * 100000 := Int.mul_le_mul (by omega) (by omega) (by omega) (by omega)
  rw [wrap_id (n := x0 * 10000) (by omega) (by omega), wrap_id (n := x1 * x2) (by omega) (by omega)]
  simp
end Go.Proofs.Ytjnppjipoibbeaa.Late
