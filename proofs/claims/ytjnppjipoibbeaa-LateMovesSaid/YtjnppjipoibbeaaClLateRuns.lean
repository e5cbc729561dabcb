/-
  The code that a closed law reaches, as data; that it is that code; its run.
-/
import Derived.Test.YtjnppjipoibbeaaProg
import Derived.Test.YtjnppjipoibbeaaAm21
import Derived.KernelRfl
namespace Go.Proofs.Ytjnppjipoibbeaa.ClLateRuns
open Go.Am
set_option maxRecDepth 100000
abbrev qt : List Nat := []
/-- cascade/cascadelaw10.LateRuns -/
def il7 : FnIL := ⟨17, [.tmp 0],
  .seq (.reg [
     ⟨(some 0), none, .mov (.const (.bool false))⟩])
  (.seq (.reg [
     ⟨(some 1), none, .call 22 [(.const (.int .i64 105)), (.const (.int .i64 100)), (.const (.int .i64 10500))]⟩,
     ⟨(some 2), none, .mov (.tmp 1)⟩,
     ⟨(some 3), (some (2, true)), .call 22 [(.const (.int .i64 104)), (.const (.int .i64 100)), (.const (.int .i64 10500))]⟩,
     ⟨(some 4), (some (2, true)), .un .not (.tmp 3)⟩,
     ⟨(some 5), none, .pick (.tmp 2) (.tmp 4) (.const (.bool false))⟩,
     ⟨(some 6), none, .mov (.tmp 5)⟩,
     ⟨(some 7), (some (6, true)), .call 23 [(.const (.int .i64 0)), (.const (.int .i64 0)), (.const (.int .i64 5))]⟩,
     ⟨(some 8), none, .pick (.tmp 6) (.tmp 7) (.const (.bool false))⟩,
     ⟨(some 9), none, .mov (.tmp 8)⟩,
     ⟨(some 10), (some (9, true)), .call 25 [(.const (.int .i64 5)), (.const (.int .i64 1))]⟩,
     ⟨(some 11), (some (9, true)), .call 25 [(.const (.int .i64 7)), (.const (.int .i64 6))]⟩,
     ⟨(some 12), (some (9, true)), .mkrow [(.int .i64 0), (.int .i64 0), (.int .i64 0), (.int .i64 0), (.bool false), (.int .i64 0), (.int .i64 0), (.int .i64 0), (.int .i64 0), (.bool false)] 2 [(0, 5, (.tmp 10)), (5, 5, (.tmp 11))]⟩,
     ⟨(some 13), (some (9, true)), .call 24 [(.tmp 12)]⟩,
     ⟨(some 14), (some (9, true)), .build [(.int .i64 0), (.int .i64 0), (.int .i64 0), (.int .i64 0)] [(0, 1, (.const (.int .i64 0))), (1, 1, (.const (.int .i64 5))), (2, 1, (.const (.int .i64 0))), (3, 1, (.const (.int .i64 7)))]⟩,
     ⟨(some 15), (some (9, true)), .eqv false (.cells [false, false, false, false]) (.tmp 13) (.tmp 14)⟩,
     ⟨(some 16), none, .pick (.tmp 9) (.tmp 15) (.const (.bool false))⟩,
     ⟨(some 0), none, .mov (.tmp 16)⟩])
  (.ret))⟩
theorem st7 : stF Try.prog qt 7 = some il7 := by kernel_rfl
/-- cascade/late.AtLeast -/
def il22 : FnIL := ⟨19, [.tmp 6],
  .seq (.reg [
     ⟨(some 6), none, .mov (.const (.bool false))⟩])
  (.seq (.reg [
     ⟨(some 7), none, .mov (.tmp 0)⟩,
     ⟨(some 8), none, .mov (.tmp 1)⟩,
     ⟨(some 9), none, .mov (.tmp 2)⟩,
     ⟨(some 10), none, .call 36 [(.tmp 7), (.tmp 8), (.tmp 9)]⟩,
     ⟨(some 11), none, .mov (.tmp 10)⟩,
     ⟨(some 12), (some (11, true)), .mov (.tmp 0)⟩,
     ⟨(some 13), (some (11, true)), .bin .mul (.tmp 12) (.const (.int .i64 10000))⟩,
     ⟨(some 14), (some (11, true)), .mov (.tmp 1)⟩,
     ⟨(some 15), (some (11, true)), .mov (.tmp 2)⟩,
     ⟨(some 16), (some (11, true)), .bin .mul (.tmp 14) (.tmp 15)⟩,
     ⟨(some 17), (some (11, true)), .bin .geq (.tmp 13) (.tmp 16)⟩,
     ⟨(some 18), none, .pick (.tmp 11) (.tmp 17) (.const (.bool false))⟩,
     ⟨(some 6), none, .mov (.tmp 18)⟩])
  (.ret))⟩
theorem st22 : stF Try.prog qt 22 = some il22 := by kernel_rfl
/-- cascade/late.may -/
def il36 : FnIL := ⟨29, [.tmp 6],
  .seq (.reg [
     ⟨(some 6), none, .mov (.const (.bool false))⟩])
  (.seq (.reg [
     ⟨(some 7), none, .mov (.tmp 0)⟩,
     ⟨(some 8), none, .bin .geq (.tmp 7) (.const (.int .i64 0))⟩,
     ⟨(some 9), none, .mov (.tmp 8)⟩,
     ⟨(some 10), (some (9, true)), .mov (.tmp 0)⟩,
     ⟨(some 11), (some (9, true)), .bin .leq (.tmp 10) (.const (.int .i64 1099511627776))⟩,
     ⟨(some 12), none, .pick (.tmp 9) (.tmp 11) (.const (.bool false))⟩,
     ⟨(some 13), none, .mov (.tmp 12)⟩,
     ⟨(some 14), (some (13, true)), .mov (.tmp 1)⟩,
     ⟨(some 15), (some (13, true)), .bin .geq (.tmp 14) (.const (.int .i64 0))⟩,
     ⟨(some 16), none, .pick (.tmp 13) (.tmp 15) (.const (.bool false))⟩,
     ⟨(some 17), none, .mov (.tmp 16)⟩,
     ⟨(some 18), (some (17, true)), .mov (.tmp 1)⟩,
     ⟨(some 19), (some (17, true)), .bin .leq (.tmp 18) (.const (.int .i64 1099511627776))⟩,
     ⟨(some 20), none, .pick (.tmp 17) (.tmp 19) (.const (.bool false))⟩,
     ⟨(some 21), none, .mov (.tmp 20)⟩,
     ⟨(some 22), (some (21, true)), .mov (.tmp 2)⟩,
     ⟨(some 23), (some (21, true)), .bin .geq (.tmp 22) (.const (.int .i64 0))⟩,
     ⟨(some 24), none, .pick (.tmp 21) (.tmp 23) (.const (.bool false))⟩,
     ⟨(some 25), none, .mov (.tmp 24)⟩,
     ⟨(some 26), (some (25, true)), .mov (.tmp 2)⟩,
     ⟨(some 27), (some (25, true)), .bin .leq (.tmp 26) (.const (.int .i64 100000))⟩,
     ⟨(some 28), none, .pick (.tmp 25) (.tmp 27) (.const (.bool false))⟩,
     ⟨(some 6), none, .mov (.tmp 28)⟩])
  (.ret))⟩
theorem st36 : stF Try.prog qt 36 = some il36 := by kernel_rfl
/-- cascade/late.AtMost -/
def il23 : FnIL := ⟨19, [.tmp 6],
  .seq (.reg [
     ⟨(some 6), none, .mov (.const (.bool false))⟩])
  (.seq (.reg [
     ⟨(some 7), none, .mov (.tmp 0)⟩,
     ⟨(some 8), none, .mov (.tmp 1)⟩,
     ⟨(some 9), none, .mov (.tmp 2)⟩,
     ⟨(some 10), none, .call 36 [(.tmp 7), (.tmp 8), (.tmp 9)]⟩,
     ⟨(some 11), none, .mov (.tmp 10)⟩,
     ⟨(some 12), (some (11, true)), .mov (.tmp 0)⟩,
     ⟨(some 13), (some (11, true)), .bin .mul (.tmp 12) (.const (.int .i64 10000))⟩,
     ⟨(some 14), (some (11, true)), .mov (.tmp 1)⟩,
     ⟨(some 15), (some (11, true)), .mov (.tmp 2)⟩,
     ⟨(some 16), (some (11, true)), .bin .mul (.tmp 14) (.tmp 15)⟩,
     ⟨(some 17), (some (11, true)), .bin .leq (.tmp 13) (.tmp 16)⟩,
     ⟨(some 18), none, .pick (.tmp 11) (.tmp 17) (.const (.bool false))⟩,
     ⟨(some 6), none, .mov (.tmp 18)⟩])
  (.ret))⟩
theorem st23 : stF Try.prog qt 23 = some il23 := by kernel_rfl
/-- cascade/cascadelaw10.loan -/
def il25 : FnIL := ⟨12, [.cell 4 (some 5)],
  .seq (.reg [
     ⟨(some 4), none, .alloc [(.int .i64 0), (.int .i64 0), (.int .i64 0), (.int .i64 0), (.bool false)]⟩])
  (.seq (.reg [
     ⟨(some 6), none, .mov (.tmp 1)⟩,
     ⟨(some 7), none, .build [(.int .i64 0), (.int .i64 0), (.int .i64 0), (.int .i64 0), (.bool false)] [(3, 1, (.tmp 6))]⟩,
     ⟨(some 5), none, .alloc [(.int .i64 0), (.int .i64 0), (.int .i64 0), (.int .i64 0), (.bool false)]⟩,
     ⟨none, none, .store (.tmp 5) (.tmp 7) 5⟩])
  (.seq (.reg [
     ⟨(some 8), none, .mov (.tmp 0)⟩,
     ⟨(some 9), none, .fadr 0 (.tmp 5)⟩,
     ⟨(some 10), none, .fadr 1 (.tmp 9)⟩,
     ⟨none, none, .store (.tmp 10) (.tmp 8) 1⟩])
  (.seq (.reg [
     ⟨(some 11), none, .load (.tmp 5) (some 5)⟩,
     ⟨none, none, .store (.tmp 4) (.tmp 11) 5⟩])
  (.ret))))⟩
theorem st25 : stF Try.prog qt 25 = some il25 := by kernel_rfl
/-- cascade/late.Of -/
def il24 : FnIL := ⟨24, [.cell 2 (some 4)],
  .seq (.reg [
     ⟨(some 2), none, .alloc [(.int .i64 0), (.int .i64 0), (.int .i64 0), (.int .i64 0)]⟩])
  (.seq (.reg [
     ⟨(some 3), none, .alloc [(.int .i64 0), (.int .i64 0), (.int .i64 0), (.int .i64 0)]⟩])
  (.seq (.seq (.reg [
      ⟨(some 6), none, .mov (.tmp 0)⟩,
      ⟨(some 7), none, .len (.tmp 6)⟩,
      ⟨(some 8), none, .mov (.const (.int .i64 0))⟩])
   (.block 0
     (.loop
       (.seq (.reg [
          ⟨(some 9), none, .bin .lss (.tmp 8) (.tmp 7)⟩])
       (.seq (.ite (.tmp 9)
          (.skip)
          (.exit 0))
       (.seq (.block 1
          (.seq (.reg [
             ⟨(some 10), none, .iadr 5 none (.tmp 6) (.tmp 8)⟩,
             ⟨(some 11), none, .load (.tmp 10) (some 5)⟩,
             ⟨(some 5), none, .alloc [(.int .i64 0), (.int .i64 0), (.int .i64 0), (.int .i64 0), (.bool false)]⟩,
             ⟨none, none, .store (.tmp 5) (.tmp 11) 5⟩])
          (.dreg [
            ⟨(some 12), none, .fadr 3 (.tmp 5)⟩,
            ⟨(some 13), none, .load (.tmp 12) none⟩,
            ⟨(some 14), none, .call 37 [(.tmp 13)]⟩,
            ⟨(some 15), none, .iadr 1 (some 4) (.tmp 3) (.tmp 14)⟩,
            ⟨(some 16), none, .load (.tmp 15) none⟩,
            ⟨(some 17), none, .fadr 0 (.tmp 5)⟩,
            ⟨(some 18), none, .fadr 1 (.tmp 17)⟩,
            ⟨(some 19), none, .load (.tmp 18) none⟩,
            ⟨(some 20), none, .bin .add (.tmp 16) (.tmp 19)⟩,
            ⟨(some 21), none, .iadr 1 (some 4) (.tmp 3) (.tmp 14)⟩,
            ⟨none, none, .store (.tmp 21) (.tmp 20) 1⟩] [(7, 2)])))
       (.reg [
         ⟨(some 22), none, .bin .add (.tmp 8) (.const (.int .i64 1))⟩,
         ⟨(some 8), none, .mov (.tmp 22)⟩])))))))
  (.seq (.reg [
     ⟨(some 23), none, .load (.tmp 3) (some 4)⟩,
     ⟨none, none, .store (.tmp 2) (.tmp 23) 4⟩])
  (.ret))))⟩
theorem st24 : stF Try.prog qt 24 = some il24 := by kernel_rfl
/-- cascade/late.bucket -/
def il37 : FnIL := ⟨12, [.tmp 2],
  .seq (.reg [
     ⟨(some 2), none, .mov (.const (.int .i64 0))⟩])
  (.seq (.block 0
     (.seq (.reg [
        ⟨(some 4), none, .mov (.tmp 0)⟩,
        ⟨(some 5), none, .bin .lss (.tmp 4) (.const (.int .i64 1))⟩,
        ⟨(some 3), none, .mov (.tmp 5)⟩])
     (.ite (.tmp 3)
       (.seq (.reg [
          ⟨(some 2), none, .mov (.const (.int .i64 0))⟩])
       (.ret))
       (.seq (.reg [
          ⟨(some 7), none, .mov (.tmp 0)⟩,
          ⟨(some 8), none, .bin .lss (.tmp 7) (.const (.int .i64 3))⟩,
          ⟨(some 6), none, .mov (.tmp 8)⟩])
       (.ite (.tmp 6)
         (.seq (.reg [
            ⟨(some 2), none, .mov (.const (.int .i64 1))⟩])
         (.ret))
         (.seq (.reg [
            ⟨(some 10), none, .mov (.tmp 0)⟩,
            ⟨(some 11), none, .bin .lss (.tmp 10) (.const (.int .i64 6))⟩,
            ⟨(some 9), none, .mov (.tmp 11)⟩])
         (.ite (.tmp 9)
           (.seq (.reg [
              ⟨(some 2), none, .mov (.const (.int .i64 2))⟩])
           (.ret))
           (.skip))))))))
  (.seq (.reg [
     ⟨(some 2), none, .mov (.const (.int .i64 3))⟩])
  (.ret)))⟩
theorem st37 : stF Try.prog qt 37 = some il37 := by kernel_rfl
def tab : Tab := [(7, il7), (22, il22), (36, il36), (23, il23), (25, il25), (24, il24), (37, il37)]
theorem tabOk : TabOk Try.prog qt tab := .cons st7 (.cons st22 (.cons st36 (.cons st23 (.cons st25 (.cons st24 (.cons st37 (.nil)))))))
theorem run : fnF tab qt 10000 20 7 [] [] = some (.bool true, []) := by kernel_rfl
theorem sim : Sim Try.prog 7 [] [] fun v h => v = .bool true ∧ h = [] := fnF_ok (by kernel_rfl) tabOk 10000 20 7 [] [] _ _ run
end Go.Proofs.Ytjnppjipoibbeaa.ClLateRuns
