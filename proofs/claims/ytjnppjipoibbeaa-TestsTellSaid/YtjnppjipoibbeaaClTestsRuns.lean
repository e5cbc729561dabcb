/-
  The code that a closed law reaches, as data; that it is that code; its run.
-/
import Derived.Test.YtjnppjipoibbeaaProg
import Derived.Test.YtjnppjipoibbeaaAm21
import Derived.KernelRfl
namespace Go.Proofs.Ytjnppjipoibbeaa.ClTestsRuns
open Go.Am
set_option maxRecDepth 100000
abbrev qt : List Nat := []
/-- cascade/cascadelaw15.TestsRuns -/
def il3 : FnIL := ⟨38, [.tmp 0],
  .seq (.reg [
     ⟨(some 0), none, .mov (.const (.bool false))⟩])
  (.seq (.reg [
     ⟨(some 4), none, .build [(.int .i64 0), (.int .i64 0), (.int .i64 0), (.int .i64 0), (.int .i64 0)] [(0, 1, (.const (.int .i64 10500))), (4, 1, (.const (.int .i64 1000)))]⟩,
     ⟨(some 1), none, .alloc [(.int .i64 0), (.int .i64 0), (.int .i64 0), (.int .i64 0), (.int .i64 0)]⟩,
     ⟨none, none, .store (.tmp 1) (.tmp 4) 5⟩])
  (.seq (.dreg [
     ⟨(some 5), none, .load (.tmp 1) (some 5)⟩,
     ⟨(some 6), none, .build [(.int .i64 0), (.int .i64 0), (.int .i64 0), (.int .i64 0), (.int .i64 0), (.int .i64 0), (.int .i64 0)] [(0, 1, (.const (.int .i64 105))), (2, 1, (.const (.int .i64 100)))]⟩,
     ⟨(some 7), none, .call 15 [(.tmp 5), (.tmp 6)]⟩,
     ⟨(some 8), none, .load (.tmp 1) (some 5)⟩,
     ⟨(some 9), none, .build [(.int .i64 0), (.int .i64 0), (.int .i64 0), (.int .i64 0), (.int .i64 0), (.int .i64 0), (.int .i64 0)] [(0, 1, (.const (.int .i64 104))), (2, 1, (.const (.int .i64 100)))]⟩,
     ⟨(some 10), none, .call 15 [(.tmp 8), (.tmp 9)]⟩,
     ⟨(some 2), none, .alloc [(.bool false), (.bool false), (.bool false), (.bool false)]⟩,
     ⟨(some 3), none, .alloc [(.bool false), (.bool false), (.bool false), (.bool false)]⟩,
     ⟨none, none, .store (.tmp 2) (.tmp 7) 4⟩,
     ⟨none, none, .store (.tmp 3) (.tmp 10) 4⟩] [(3, 2)])
  (.seq (.reg [
     ⟨(some 11), none, .load (.tmp 2) (some 4)⟩,
     ⟨(some 12), none, .call 16 [(.tmp 11)]⟩,
     ⟨(some 13), none, .mov (.tmp 12)⟩,
     ⟨(some 14), (some (13, true)), .load (.tmp 2) (some 4)⟩,
     ⟨(some 15), (some (13, true)), .call 17 [(.tmp 14)]⟩,
     ⟨(some 16), (some (13, true)), .un .not (.tmp 15)⟩,
     ⟨(some 17), none, .pick (.tmp 13) (.tmp 16) (.const (.bool false))⟩,
     ⟨(some 18), none, .mov (.tmp 17)⟩,
     ⟨(some 19), (some (18, true)), .fadr 0 (.tmp 3)⟩,
     ⟨(some 20), (some (18, true)), .load (.tmp 19) none⟩,
     ⟨(some 21), (some (18, true)), .un .not (.tmp 20)⟩,
     ⟨(some 22), none, .pick (.tmp 18) (.tmp 21) (.const (.bool false))⟩,
     ⟨(some 23), none, .mov (.tmp 22)⟩,
     ⟨(some 24), (some (23, true)), .load (.tmp 3) (some 4)⟩,
     ⟨(some 25), (some (23, true)), .call 17 [(.tmp 24)]⟩,
     ⟨(some 26), none, .pick (.tmp 23) (.tmp 25) (.const (.bool false))⟩,
     ⟨(some 27), none, .mov (.tmp 26)⟩,
     ⟨(some 28), (some (27, true)), .load (.tmp 1) (some 5)⟩,
     ⟨(some 29), (some (27, true)), .build [(.int .i64 0), (.int .i64 0), (.int .i64 0), (.int .i64 0), (.int .i64 0), (.int .i64 0), (.int .i64 0)] [(0, 1, (.const (.int .i64 10))), (1, 1, (.const (.int .i64 100)))]⟩,
     ⟨(some 30), (some (27, true)), .call 18 [(.tmp 28), (.tmp 29)]⟩,
     ⟨(some 31), none, .pick (.tmp 27) (.tmp 30) (.const (.bool false))⟩,
     ⟨(some 32), none, .mov (.tmp 31)⟩,
     ⟨(some 33), (some (32, true)), .load (.tmp 1) (some 5)⟩,
     ⟨(some 34), (some (32, true)), .build [(.int .i64 0), (.int .i64 0), (.int .i64 0), (.int .i64 0), (.int .i64 0), (.int .i64 0), (.int .i64 0)] [(0, 1, (.const (.int .i64 11))), (1, 1, (.const (.int .i64 100)))]⟩,
     ⟨(some 35), (some (32, true)), .call 18 [(.tmp 33), (.tmp 34)]⟩,
     ⟨(some 36), (some (32, true)), .un .not (.tmp 35)⟩,
     ⟨(some 37), none, .pick (.tmp 32) (.tmp 36) (.const (.bool false))⟩,
     ⟨(some 0), none, .mov (.tmp 37)⟩])
  (.ret))))⟩
theorem st3 : stF Try.prog qt 3 = some il3 := by kernel_rfl
/-- cascade/tests.Of -/
def il15 : FnIL := ⟨54, [.cell 4 (some 4)],
  .seq (.reg [
     ⟨(some 2), none, .box (.tmp 0)⟩,
     ⟨(some 3), none, .box (.tmp 1)⟩,
     ⟨(some 4), none, .alloc [(.bool false), (.bool false), (.bool false), (.bool false)]⟩])
  (.seq (.dreg [
     ⟨(some 5), none, .fadr 0 (.tmp 2)⟩,
     ⟨(some 6), none, .load (.tmp 5) none⟩,
     ⟨(some 7), none, .bin .eql (.tmp 6) (.const (.int .i64 0))⟩,
     ⟨(some 8), none, .mov (.tmp 7)⟩,
     ⟨(some 9), (some (8, false)), .fadr 0 (.tmp 3)⟩,
     ⟨(some 10), (some (8, false)), .load (.tmp 9) none⟩,
     ⟨(some 11), (some (8, false)), .fadr 2 (.tmp 3)⟩,
     ⟨(some 12), (some (8, false)), .load (.tmp 11) none⟩,
     ⟨(some 13), (some (8, false)), .fadr 0 (.tmp 2)⟩,
     ⟨(some 14), (some (8, false)), .load (.tmp 13) none⟩,
     ⟨(some 15), (some (8, false)), .call 22 [(.tmp 10), (.tmp 12), (.tmp 14)]⟩,
     ⟨(some 16), none, .pick (.tmp 8) (.const (.bool true)) (.tmp 15)⟩,
     ⟨(some 17), none, .fadr 1 (.tmp 2)⟩,
     ⟨(some 18), none, .load (.tmp 17) none⟩,
     ⟨(some 19), none, .bin .eql (.tmp 18) (.const (.int .i64 0))⟩,
     ⟨(some 20), none, .mov (.tmp 19)⟩,
     ⟨(some 21), (some (20, false)), .fadr 3 (.tmp 3)⟩,
     ⟨(some 22), (some (20, false)), .load (.tmp 21) none⟩,
     ⟨(some 23), (some (20, false)), .fadr 4 (.tmp 3)⟩,
     ⟨(some 24), (some (20, false)), .load (.tmp 23) none⟩,
     ⟨(some 25), (some (20, false)), .fadr 1 (.tmp 2)⟩,
     ⟨(some 26), (some (20, false)), .load (.tmp 25) none⟩,
     ⟨(some 27), (some (20, false)), .call 22 [(.tmp 22), (.tmp 24), (.tmp 26)]⟩,
     ⟨(some 28), none, .pick (.tmp 20) (.const (.bool true)) (.tmp 27)⟩,
     ⟨(some 29), none, .fadr 2 (.tmp 2)⟩,
     ⟨(some 30), none, .load (.tmp 29) none⟩,
     ⟨(some 31), none, .bin .eql (.tmp 30) (.const (.int .i64 0))⟩,
     ⟨(some 32), none, .mov (.tmp 31)⟩,
     ⟨(some 33), (some (32, false)), .fadr 5 (.tmp 3)⟩,
     ⟨(some 34), (some (32, false)), .load (.tmp 33) none⟩,
     ⟨(some 35), (some (32, false)), .fadr 0 (.tmp 3)⟩,
     ⟨(some 36), (some (32, false)), .load (.tmp 35) none⟩,
     ⟨(some 37), (some (32, false)), .fadr 2 (.tmp 2)⟩,
     ⟨(some 38), (some (32, false)), .load (.tmp 37) none⟩,
     ⟨(some 39), (some (32, false)), .call 23 [(.tmp 34), (.tmp 36), (.tmp 38)]⟩,
     ⟨(some 40), none, .pick (.tmp 32) (.const (.bool true)) (.tmp 39)⟩,
     ⟨(some 41), none, .fadr 3 (.tmp 2)⟩,
     ⟨(some 42), none, .load (.tmp 41) none⟩,
     ⟨(some 43), none, .bin .eql (.tmp 42) (.const (.int .i64 0))⟩,
     ⟨(some 44), none, .mov (.tmp 43)⟩,
     ⟨(some 45), (some (44, false)), .fadr 6 (.tmp 3)⟩,
     ⟨(some 46), (some (44, false)), .load (.tmp 45) none⟩,
     ⟨(some 47), (some (44, false)), .fadr 1 (.tmp 3)⟩,
     ⟨(some 48), (some (44, false)), .load (.tmp 47) none⟩,
     ⟨(some 49), (some (44, false)), .fadr 3 (.tmp 2)⟩,
     ⟨(some 50), (some (44, false)), .load (.tmp 49) none⟩,
     ⟨(some 51), (some (44, false)), .call 23 [(.tmp 46), (.tmp 48), (.tmp 50)]⟩,
     ⟨(some 52), none, .pick (.tmp 44) (.const (.bool true)) (.tmp 51)⟩,
     ⟨(some 53), none, .build [(.bool false), (.bool false), (.bool false), (.bool false)] [(0, 1, (.tmp 16)), (1, 1, (.tmp 28)), (2, 1, (.tmp 40)), (3, 1, (.tmp 52))]⟩,
     ⟨none, none, .store (.tmp 4) (.tmp 53) 4⟩] [(13, 10), (25, 10), (25, 22), (37, 10), (37, 22), (37, 34)])
  (.ret))⟩
theorem st15 : stF Try.prog qt 15 = some il15 := by kernel_rfl
/-- cascade/late.AtLeast -/
def il22 : FnIL := ⟨19, [.tmp 6],
  .seq (.reg [
     ⟨(some 6), none, .mov (.const (.bool false))⟩])
  (.seq (.reg [
     ⟨(some 7), none, .mov (.tmp 0)⟩,
     ⟨(some 8), none, .mov (.tmp 1)⟩,
     ⟨(some 9), none, .mov (.tmp 2)⟩,
     ⟨(some 10), none, .call 36 [(.tmp 7), (.tmp 8), (.tmp 9)]⟩,
     ⟨(some 11), none, .mov (.tmp 10)⟩,
     ⟨(some 12), (some (11, true)), .mov (.tmp 0)⟩,
     ⟨(some 13), (some (11, true)), .bin .mul (.tmp 12) (.const (.int .i64 10000))⟩,
     ⟨(some 14), (some (11, true)), .mov (.tmp 1)⟩,
     ⟨(some 15), (some (11, true)), .mov (.tmp 2)⟩,
     ⟨(some 16), (some (11, true)), .bin .mul (.tmp 14) (.tmp 15)⟩,
     ⟨(some 17), (some (11, true)), .bin .geq (.tmp 13) (.tmp 16)⟩,
     ⟨(some 18), none, .pick (.tmp 11) (.tmp 17) (.const (.bool false))⟩,
     ⟨(some 6), none, .mov (.tmp 18)⟩])
  (.ret))⟩
theorem st22 : stF Try.prog qt 22 = some il22 := by kernel_rfl
/-- cascade/late.may -/
def il36 : FnIL := ⟨29, [.tmp 6],
  .seq (.reg [
     ⟨(some 6), none, .mov (.const (.bool false))⟩])
  (.seq (.reg [
     ⟨(some 7), none, .mov (.tmp 0)⟩,
     ⟨(some 8), none, .bin .geq (.tmp 7) (.const (.int .i64 0))⟩,
     ⟨(some 9), none, .mov (.tmp 8)⟩,
     ⟨(some 10), (some (9, true)), .mov (.tmp 0)⟩,
     ⟨(some 11), (some (9, true)), .bin .leq (.tmp 10) (.const (.int .i64 1099511627776))⟩,
     ⟨(some 12), none, .pick (.tmp 9) (.tmp 11) (.const (.bool false))⟩,
     ⟨(some 13), none, .mov (.tmp 12)⟩,
     ⟨(some 14), (some (13, true)), .mov (.tmp 1)⟩,
     ⟨(some 15), (some (13, true)), .bin .geq (.tmp 14) (.const (.int .i64 0))⟩,
     ⟨(some 16), none, .pick (.tmp 13) (.tmp 15) (.const (.bool false))⟩,
     ⟨(some 17), none, .mov (.tmp 16)⟩,
     ⟨(some 18), (some (17, true)), .mov (.tmp 1)⟩,
     ⟨(some 19), (some (17, true)), .bin .leq (.tmp 18) (.const (.int .i64 1099511627776))⟩,
     ⟨(some 20), none, .pick (.tmp 17) (.tmp 19) (.const (.bool false))⟩,
     ⟨(some 21), none, .mov (.tmp 20)⟩,
     ⟨(some 22), (some (21, true)), .mov (.tmp 2)⟩,
     ⟨(some 23), (some (21, true)), .bin .geq (.tmp 22) (.const (.int .i64 0))⟩,
     ⟨(some 24), none, .pick (.tmp 21) (.tmp 23) (.const (.bool false))⟩,
     ⟨(some 25), none, .mov (.tmp 24)⟩,
     ⟨(some 26), (some (25, true)), .mov (.tmp 2)⟩,
     ⟨(some 27), (some (25, true)), .bin .leq (.tmp 26) (.const (.int .i64 100000))⟩,
     ⟨(some 28), none, .pick (.tmp 25) (.tmp 27) (.const (.bool false))⟩,
     ⟨(some 6), none, .mov (.tmp 28)⟩])
  (.ret))⟩
theorem st36 : stF Try.prog qt 36 = some il36 := by kernel_rfl
/-- cascade/late.AtMost -/
def il23 : FnIL := ⟨19, [.tmp 6],
  .seq (.reg [
     ⟨(some 6), none, .mov (.const (.bool false))⟩])
  (.seq (.reg [
     ⟨(some 7), none, .mov (.tmp 0)⟩,
     ⟨(some 8), none, .mov (.tmp 1)⟩,
     ⟨(some 9), none, .mov (.tmp 2)⟩,
     ⟨(some 10), none, .call 36 [(.tmp 7), (.tmp 8), (.tmp 9)]⟩,
     ⟨(some 11), none, .mov (.tmp 10)⟩,
     ⟨(some 12), (some (11, true)), .mov (.tmp 0)⟩,
     ⟨(some 13), (some (11, true)), .bin .mul (.tmp 12) (.const (.int .i64 10000))⟩,
     ⟨(some 14), (some (11, true)), .mov (.tmp 1)⟩,
     ⟨(some 15), (some (11, true)), .mov (.tmp 2)⟩,
     ⟨(some 16), (some (11, true)), .bin .mul (.tmp 14) (.tmp 15)⟩,
     ⟨(some 17), (some (11, true)), .bin .leq (.tmp 13) (.tmp 16)⟩,
     ⟨(some 18), none, .pick (.tmp 11) (.tmp 17) (.const (.bool false))⟩,
     ⟨(some 6), none, .mov (.tmp 18)⟩])
  (.ret))⟩
theorem st23 : stF Try.prog qt 23 = some il23 := by kernel_rfl
/-- (cascade/tests.Result).All -/
def il16 : FnIL := ⟨10, [.tmp 2],
  .seq (.reg [
     ⟨(some 1), none, .box (.tmp 0)⟩,
     ⟨(some 2), none, .mov (.const (.bool false))⟩])
  (.seq (.reg [
     ⟨(some 3), none, .fadr 1 (.tmp 1)⟩,
     ⟨(some 4), none, .load (.tmp 3) none⟩,
     ⟨(some 5), none, .mov (.tmp 4)⟩,
     ⟨(some 6), (some (5, true)), .load (.tmp 1) (some 4)⟩,
     ⟨(some 7), (some (5, true)), .call 17 [(.tmp 6)]⟩,
     ⟨(some 8), (some (5, true)), .un .not (.tmp 7)⟩,
     ⟨(some 9), none, .pick (.tmp 5) (.tmp 8) (.const (.bool false))⟩,
     ⟨(some 2), none, .mov (.tmp 9)⟩])
  (.ret))⟩
theorem st16 : stF Try.prog qt 16 = some il16 := by kernel_rfl
/-- (cascade/tests.Result).Fails -/
def il17 : FnIL := ⟨16, [.tmp 2],
  .seq (.reg [
     ⟨(some 1), none, .box (.tmp 0)⟩,
     ⟨(some 2), none, .mov (.const (.bool false))⟩])
  (.seq (.reg [
     ⟨(some 3), none, .fadr 0 (.tmp 1)⟩,
     ⟨(some 4), none, .load (.tmp 3) none⟩,
     ⟨(some 5), none, .un .not (.tmp 4)⟩,
     ⟨(some 6), none, .mov (.tmp 5)⟩,
     ⟨(some 7), (some (6, false)), .fadr 2 (.tmp 1)⟩,
     ⟨(some 8), (some (6, false)), .load (.tmp 7) none⟩,
     ⟨(some 9), (some (6, false)), .un .not (.tmp 8)⟩,
     ⟨(some 10), none, .pick (.tmp 6) (.const (.bool true)) (.tmp 9)⟩,
     ⟨(some 11), none, .mov (.tmp 10)⟩,
     ⟨(some 12), (some (11, false)), .fadr 3 (.tmp 1)⟩,
     ⟨(some 13), (some (11, false)), .load (.tmp 12) none⟩,
     ⟨(some 14), (some (11, false)), .un .not (.tmp 13)⟩,
     ⟨(some 15), none, .pick (.tmp 11) (.const (.bool true)) (.tmp 14)⟩,
     ⟨(some 2), none, .mov (.tmp 15)⟩])
  (.ret))⟩
theorem st17 : stF Try.prog qt 17 = some il17 := by kernel_rfl
/-- cascade/tests.Clean -/
def il18 : FnIL := ⟨17, [.tmp 4],
  .seq (.reg [
     ⟨(some 2), none, .box (.tmp 0)⟩,
     ⟨(some 3), none, .box (.tmp 1)⟩,
     ⟨(some 4), none, .mov (.const (.bool false))⟩])
  (.seq (.reg [
     ⟨(some 5), none, .fadr 4 (.tmp 2)⟩,
     ⟨(some 6), none, .load (.tmp 5) none⟩,
     ⟨(some 7), none, .bin .neq (.tmp 6) (.const (.int .i64 0))⟩,
     ⟨(some 8), none, .mov (.tmp 7)⟩,
     ⟨(some 9), (some (8, true)), .fadr 0 (.tmp 3)⟩,
     ⟨(some 10), (some (8, true)), .load (.tmp 9) none⟩,
     ⟨(some 11), (some (8, true)), .fadr 1 (.tmp 3)⟩,
     ⟨(some 12), (some (8, true)), .load (.tmp 11) none⟩,
     ⟨(some 13), (some (8, true)), .fadr 4 (.tmp 2)⟩,
     ⟨(some 14), (some (8, true)), .load (.tmp 13) none⟩,
     ⟨(some 15), (some (8, true)), .call 23 [(.tmp 10), (.tmp 12), (.tmp 14)]⟩,
     ⟨(some 16), none, .pick (.tmp 8) (.tmp 15) (.const (.bool false))⟩,
     ⟨(some 4), none, .mov (.tmp 16)⟩])
  (.ret))⟩
theorem st18 : stF Try.prog qt 18 = some il18 := by kernel_rfl
def tab : Tab := [(3, il3), (15, il15), (22, il22), (36, il36), (23, il23), (16, il16), (17, il17), (18, il18)]
theorem tabOk : TabOk Try.prog qt tab := .cons st3 (.cons st15 (.cons st22 (.cons st36 (.cons st23 (.cons st16 (.cons st17 (.cons st18 (.nil))))))))
theorem run : fnF tab qt 10000 20 3 [] [] = some (.bool true, []) := by kernel_rfl
theorem sim : Sim Try.prog 3 [] [] fun v h => v = .bool true ∧ h = [] := fnF_ok (by kernel_rfl) tabOk 10000 20 3 [] [] _ _ run
end Go.Proofs.Ytjnppjipoibbeaa.ClTestsRuns
