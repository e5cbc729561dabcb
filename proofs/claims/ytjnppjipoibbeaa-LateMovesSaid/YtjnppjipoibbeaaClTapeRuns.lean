/-
  The code that a closed law reaches, as data; that it is that code; its run.
-/
import Derived.Test.YtjnppjipoibbeaaProg
import Derived.Test.YtjnppjipoibbeaaAm21
import Derived.KernelRfl
namespace Go.Proofs.Ytjnppjipoibbeaa.ClTapeRuns
open Go.Am
set_option maxRecDepth 100000
abbrev qt : List Nat := []
/-- cascade/cascadelaw8.TapeRuns -/
def il11 : FnIL := ⟨26, [.tmp 0],
  .seq (.reg [
     ⟨(some 0), none, .mov (.const (.bool false))⟩])
  (.seq (.reg [
     ⟨(some 3), none, .build [(.int .i64 0), (.int .i64 0), (.int .i64 0), (.int .i64 0), (.int .i64 0), (.int .i64 0), (.bool false)] [(0, 1, (.const (.int .i64 1))), (1, 1, (.const (.int .i64 5))), (2, 1, (.const (.int .i64 2))), (3, 1, (.const (.int .i64 3)))]⟩,
     ⟨(some 4), none, .build [(.int .i64 0), (.int .i64 0), (.int .i64 0), (.int .i64 0), (.int .i64 0), (.int .i64 0), (.bool false)] [(0, 1, (.const (.int .i64 4))), (3, 1, (.const (.int .i64 1))), (4, 1, (.const (.int .i64 7))), (5, 1, (.const (.int .i64 2))), (6, 1, (.const (.bool true)))]⟩,
     ⟨(some 5), none, .mkrow [(.int .i64 0), (.int .i64 0), (.int .i64 0), (.int .i64 0), (.int .i64 0), (.int .i64 0), (.bool false), (.int .i64 0), (.int .i64 0), (.int .i64 0), (.int .i64 0), (.int .i64 0), (.int .i64 0), (.bool false)] 2 [(0, 7, (.tmp 3)), (7, 7, (.tmp 4))]⟩,
     ⟨(some 1), none, .mov (.tmp 5)⟩])
  (.seq (.reg [
     ⟨(some 6), none, .mov (.tmp 1)⟩,
     ⟨(some 7), none, .call 30 [(.tmp 6)]⟩,
     ⟨(some 2), none, .alloc [(.int .i64 0), (.int .i64 0), (.int .i64 0), (.int .i64 0), (.int .i64 0)]⟩,
     ⟨none, none, .store (.tmp 2) (.tmp 7) 5⟩])
  (.seq (.reg [
     ⟨(some 8), none, .mov (.tmp 1)⟩,
     ⟨(some 9), none, .call 31 [(.tmp 8)]⟩,
     ⟨(some 10), none, .mov (.tmp 9)⟩,
     ⟨(some 11), (some (10, true)), .load (.tmp 2) (some 5)⟩,
     ⟨(some 12), (some (10, true)), .build [(.int .i64 0), (.int .i64 0), (.int .i64 0), (.int .i64 0), (.int .i64 0)] [(0, 1, (.const (.int .i64 5))), (1, 1, (.const (.int .i64 2))), (2, 1, (.const (.int .i64 4))), (3, 1, (.const (.int .i64 7))), (4, 1, (.const (.int .i64 1)))]⟩,
     ⟨(some 13), (some (10, true)), .eqv false (.cells [false, false, false, false, false]) (.tmp 11) (.tmp 12)⟩,
     ⟨(some 14), none, .pick (.tmp 10) (.tmp 13) (.const (.bool false))⟩,
     ⟨(some 15), none, .mov (.tmp 14)⟩,
     ⟨(some 16), (some (15, true)), .load (.tmp 2) (some 5)⟩,
     ⟨(some 17), (some (15, true)), .call 32 [(.tmp 16)]⟩,
     ⟨(some 18), (some (15, true)), .bin .eql (.tmp 17) (.const (.int .i64 18))⟩,
     ⟨(some 19), none, .pick (.tmp 15) (.tmp 18) (.const (.bool false))⟩,
     ⟨(some 20), none, .mov (.tmp 19)⟩,
     ⟨(some 21), (some (20, true)), .build [(.int .i64 0), (.int .i64 0), (.int .i64 0), (.int .i64 0), (.int .i64 0), (.int .i64 0), (.bool false)] [(0, 1, (.const (.int .i64 0)))]⟩,
     ⟨(some 22), (some (20, true)), .mkrow [(.int .i64 0), (.int .i64 0), (.int .i64 0), (.int .i64 0), (.int .i64 0), (.int .i64 0), (.bool false)] 1 [(0, 7, (.tmp 21))]⟩,
     ⟨(some 23), (some (20, true)), .call 31 [(.tmp 22)]⟩,
     ⟨(some 24), (some (20, true)), .un .not (.tmp 23)⟩,
     ⟨(some 25), none, .pick (.tmp 20) (.tmp 24) (.const (.bool false))⟩,
     ⟨(some 0), none, .mov (.tmp 25)⟩])
  (.ret))))⟩
theorem st11 : stF Try.prog qt 11 = some il11 := by kernel_rfl
/-- cascade/tape.Sum -/
def il30 : FnIL := ⟨30, [.cell 2 (some 5)],
  .seq (.reg [
     ⟨(some 2), none, .alloc [(.int .i64 0), (.int .i64 0), (.int .i64 0), (.int .i64 0), (.int .i64 0)]⟩])
  (.seq (.reg [
     ⟨(some 3), none, .alloc [(.int .i64 0), (.int .i64 0), (.int .i64 0), (.int .i64 0), (.int .i64 0)]⟩])
  (.seq (.seq (.reg [
      ⟨(some 7), none, .mov (.tmp 0)⟩,
      ⟨(some 8), none, .len (.tmp 7)⟩,
      ⟨(some 9), none, .mov (.const (.int .i64 0))⟩])
   (.block 0
     (.loop
       (.seq (.reg [
          ⟨(some 10), none, .bin .lss (.tmp 9) (.tmp 8)⟩])
       (.seq (.ite (.tmp 10)
          (.skip)
          (.exit 0))
       (.seq (.block 1
          (.seq (.reg [
             ⟨(some 11), none, .iadr 7 none (.tmp 7) (.tmp 9)⟩,
             ⟨(some 12), none, .load (.tmp 11) (some 7)⟩,
             ⟨(some 5), none, .alloc [(.int .i64 0), (.int .i64 0), (.int .i64 0), (.int .i64 0), (.int .i64 0), (.int .i64 0), (.bool false)]⟩,
             ⟨none, none, .store (.tmp 5) (.tmp 12) 7⟩])
          (.seq (.reg [
             ⟨(some 13), none, .fadr 1 (.tmp 5)⟩,
             ⟨(some 14), none, .load (.tmp 13) none⟩,
             ⟨(some 15), none, .fadr 2 (.tmp 5)⟩,
             ⟨(some 16), none, .load (.tmp 15) none⟩,
             ⟨(some 17), none, .fadr 3 (.tmp 5)⟩,
             ⟨(some 18), none, .load (.tmp 17) none⟩,
             ⟨(some 19), none, .fadr 4 (.tmp 5)⟩,
             ⟨(some 20), none, .load (.tmp 19) none⟩,
             ⟨(some 21), none, .build [(.int .i64 0), (.int .i64 0), (.int .i64 0), (.int .i64 0), (.int .i64 0)] [(0, 1, (.tmp 14)), (1, 1, (.tmp 16)), (2, 1, (.tmp 18)), (3, 1, (.tmp 20))]⟩,
             ⟨(some 6), none, .alloc [(.int .i64 0), (.int .i64 0), (.int .i64 0), (.int .i64 0), (.int .i64 0)]⟩,
             ⟨none, none, .store (.tmp 6) (.tmp 21) 5⟩])
          (.seq (.seq (.reg [
              ⟨(some 22), none, .fadr 6 (.tmp 5)⟩,
              ⟨(some 23), none, .load (.tmp 22) none⟩])
           (.ite (.tmp 23)
             (.reg [
               ⟨(some 24), none, .fadr 4 (.tmp 6)⟩,
               ⟨none, none, .store (.tmp 24) (.const (.int .i64 1)) 1⟩])
             (.skip)))
          (.reg [
            ⟨(some 25), none, .load (.tmp 3) (some 5)⟩,
            ⟨(some 26), none, .load (.tmp 6) (some 5)⟩,
            ⟨(some 27), none, .call 34 [(.tmp 25), (.tmp 26)]⟩,
            ⟨none, none, .store (.tmp 3) (.tmp 27) 5⟩])))))
       (.reg [
         ⟨(some 28), none, .bin .add (.tmp 9) (.const (.int .i64 1))⟩,
         ⟨(some 9), none, .mov (.tmp 28)⟩])))))))
  (.seq (.reg [
     ⟨(some 29), none, .load (.tmp 3) (some 5)⟩,
     ⟨none, none, .store (.tmp 2) (.tmp 29) 5⟩])
  (.ret))))⟩
theorem st30 : stF Try.prog qt 30 = some il30 := by kernel_rfl
/-- (cascade/tape.Total).Plus -/
def il34 : FnIL := ⟨31, [.cell 4 (some 5)],
  .seq (.reg [
     ⟨(some 2), none, .box (.tmp 0)⟩,
     ⟨(some 3), none, .box (.tmp 1)⟩,
     ⟨(some 4), none, .alloc [(.int .i64 0), (.int .i64 0), (.int .i64 0), (.int .i64 0), (.int .i64 0)]⟩])
  (.seq (.reg [
     ⟨(some 5), none, .fadr 0 (.tmp 2)⟩,
     ⟨(some 6), none, .load (.tmp 5) none⟩,
     ⟨(some 7), none, .fadr 0 (.tmp 3)⟩,
     ⟨(some 8), none, .load (.tmp 7) none⟩,
     ⟨(some 9), none, .bin .add (.tmp 6) (.tmp 8)⟩,
     ⟨(some 10), none, .fadr 1 (.tmp 2)⟩,
     ⟨(some 11), none, .load (.tmp 10) none⟩,
     ⟨(some 12), none, .fadr 1 (.tmp 3)⟩,
     ⟨(some 13), none, .load (.tmp 12) none⟩,
     ⟨(some 14), none, .bin .add (.tmp 11) (.tmp 13)⟩,
     ⟨(some 15), none, .fadr 2 (.tmp 2)⟩,
     ⟨(some 16), none, .load (.tmp 15) none⟩,
     ⟨(some 17), none, .fadr 2 (.tmp 3)⟩,
     ⟨(some 18), none, .load (.tmp 17) none⟩,
     ⟨(some 19), none, .bin .add (.tmp 16) (.tmp 18)⟩,
     ⟨(some 20), none, .fadr 3 (.tmp 2)⟩,
     ⟨(some 21), none, .load (.tmp 20) none⟩,
     ⟨(some 22), none, .fadr 3 (.tmp 3)⟩,
     ⟨(some 23), none, .load (.tmp 22) none⟩,
     ⟨(some 24), none, .bin .add (.tmp 21) (.tmp 23)⟩,
     ⟨(some 25), none, .fadr 4 (.tmp 2)⟩,
     ⟨(some 26), none, .load (.tmp 25) none⟩,
     ⟨(some 27), none, .fadr 4 (.tmp 3)⟩,
     ⟨(some 28), none, .load (.tmp 27) none⟩,
     ⟨(some 29), none, .bin .add (.tmp 26) (.tmp 28)⟩,
     ⟨(some 30), none, .build [(.int .i64 0), (.int .i64 0), (.int .i64 0), (.int .i64 0), (.int .i64 0)] [(0, 1, (.tmp 9)), (1, 1, (.tmp 14)), (2, 1, (.tmp 19)), (3, 1, (.tmp 24)), (4, 1, (.tmp 29))]⟩,
     ⟨none, none, .store (.tmp 4) (.tmp 30) 5⟩])
  (.ret))⟩
theorem st34 : stF Try.prog qt 34 = some il34 := by kernel_rfl
/-- cascade/tape.Right -/
def il31 : FnIL := ⟨27, [.tmp 2],
  .seq (.reg [
     ⟨(some 2), none, .mov (.const (.bool false))⟩])
  (.seq (.seq (.reg [
      ⟨(some 6), none, .mov (.tmp 0)⟩,
      ⟨(some 7), none, .len (.tmp 6)⟩,
      ⟨(some 8), none, .bin .gtr (.tmp 7) (.const (.int .i64 64))⟩])
   (.ite (.tmp 8)
     (.seq (.reg [
        ⟨(some 2), none, .mov (.const (.bool false))⟩])
     (.ret))
     (.skip)))
  (.seq (.reg [
     ⟨(some 3), none, .mov (.const (.int .i64 0))⟩])
  (.seq (.seq (.reg [
      ⟨(some 9), none, .mov (.tmp 0)⟩,
      ⟨(some 10), none, .len (.tmp 9)⟩,
      ⟨(some 11), none, .mov (.const (.int .i64 0))⟩])
   (.block 0
     (.loop
       (.seq (.reg [
          ⟨(some 12), none, .bin .lss (.tmp 11) (.tmp 10)⟩])
       (.seq (.ite (.tmp 12)
          (.skip)
          (.exit 0))
       (.seq (.block 1
          (.seq (.reg [
             ⟨(some 13), none, .iadr 7 none (.tmp 9) (.tmp 11)⟩,
             ⟨(some 14), none, .load (.tmp 13) (some 7)⟩,
             ⟨(some 5), none, .alloc [(.int .i64 0), (.int .i64 0), (.int .i64 0), (.int .i64 0), (.int .i64 0), (.int .i64 0), (.bool false)]⟩,
             ⟨none, none, .store (.tmp 5) (.tmp 14) 7⟩])
          (.seq (.seq (.reg [
              ⟨(some 15), none, .fadr 0 (.tmp 5)⟩,
              ⟨(some 16), none, .load (.tmp 15) none⟩,
              ⟨(some 17), none, .mov (.tmp 3)⟩,
              ⟨(some 18), none, .bin .leq (.tmp 16) (.tmp 17)⟩,
              ⟨(some 19), none, .mov (.tmp 18)⟩,
              ⟨(some 20), (some (19, false)), .load (.tmp 5) (some 7)⟩,
              ⟨(some 21), (some (19, false)), .call 38 [(.tmp 20)]⟩,
              ⟨(some 22), (some (19, false)), .un .not (.tmp 21)⟩,
              ⟨(some 23), none, .pick (.tmp 19) (.const (.bool true)) (.tmp 22)⟩])
           (.ite (.tmp 23)
             (.seq (.reg [
                ⟨(some 2), none, .mov (.const (.bool false))⟩])
             (.ret))
             (.skip)))
          (.reg [
            ⟨(some 24), none, .fadr 0 (.tmp 5)⟩,
            ⟨(some 25), none, .load (.tmp 24) none⟩,
            ⟨(some 3), none, .mov (.tmp 25)⟩]))))
       (.reg [
         ⟨(some 26), none, .bin .add (.tmp 11) (.const (.int .i64 1))⟩,
         ⟨(some 11), none, .mov (.tmp 26)⟩])))))))
  (.seq (.reg [
     ⟨(some 2), none, .mov (.const (.bool true))⟩])
  (.ret)))))⟩
theorem st31 : stF Try.prog qt 31 = some il31 := by kernel_rfl
/-- cascade/tape.right -/
def il38 : FnIL := ⟨34, [.tmp 2],
  .seq (.reg [
     ⟨(some 1), none, .box (.tmp 0)⟩,
     ⟨(some 2), none, .mov (.const (.bool false))⟩])
  (.seq (.seq (.reg [
      ⟨(some 5), none, .fadr 1 (.tmp 1)⟩,
      ⟨(some 6), none, .load (.tmp 5) none⟩,
      ⟨(some 7), none, .fadr 2 (.tmp 1)⟩,
      ⟨(some 8), none, .load (.tmp 7) none⟩,
      ⟨(some 9), none, .fadr 3 (.tmp 1)⟩,
      ⟨(some 10), none, .load (.tmp 9) none⟩,
      ⟨(some 11), none, .fadr 4 (.tmp 1)⟩,
      ⟨(some 12), none, .load (.tmp 11) none⟩,
      ⟨(some 13), none, .mkrow [(.int .i64 0), (.int .i64 0), (.int .i64 0), (.int .i64 0)] 4 [(0, 1, (.tmp 6)), (1, 1, (.tmp 8)), (2, 1, (.tmp 10)), (3, 1, (.tmp 12))]⟩,
      ⟨(some 14), none, .len (.tmp 13)⟩,
      ⟨(some 15), none, .mov (.const (.int .i64 0))⟩])
   (.block 0
     (.loop
       (.seq (.reg [
          ⟨(some 16), none, .bin .lss (.tmp 15) (.tmp 14)⟩])
       (.seq (.ite (.tmp 16)
          (.skip)
          (.exit 0))
       (.seq (.block 1
          (.seq (.reg [
             ⟨(some 17), none, .iadr 1 none (.tmp 13) (.tmp 15)⟩,
             ⟨(some 18), none, .load (.tmp 17) none⟩,
             ⟨(some 4), none, .mov (.tmp 18)⟩])
          (.seq (.reg [
             ⟨(some 19), none, .mov (.tmp 4)⟩,
             ⟨(some 20), none, .bin .lss (.tmp 19) (.const (.int .i64 0))⟩,
             ⟨(some 21), none, .mov (.tmp 20)⟩,
             ⟨(some 22), (some (21, false)), .mov (.tmp 4)⟩,
             ⟨(some 23), (some (21, false)), .bin .gtr (.tmp 22) (.const (.int .i64 1099511627776))⟩,
             ⟨(some 24), none, .pick (.tmp 21) (.const (.bool true)) (.tmp 23)⟩])
          (.ite (.tmp 24)
            (.seq (.reg [
               ⟨(some 2), none, .mov (.const (.bool false))⟩])
            (.ret))
            (.skip)))))
       (.reg [
         ⟨(some 25), none, .bin .add (.tmp 15) (.const (.int .i64 1))⟩,
         ⟨(some 15), none, .mov (.tmp 25)⟩])))))))
  (.seq (.reg [
     ⟨(some 26), none, .fadr 5 (.tmp 1)⟩,
     ⟨(some 27), none, .load (.tmp 26) none⟩,
     ⟨(some 28), none, .bin .geq (.tmp 27) (.const (.int .i64 0))⟩,
     ⟨(some 29), none, .mov (.tmp 28)⟩,
     ⟨(some 30), (some (29, true)), .fadr 5 (.tmp 1)⟩,
     ⟨(some 31), (some (29, true)), .load (.tmp 30) none⟩,
     ⟨(some 32), (some (29, true)), .bin .leq (.tmp 31) (.const (.int .i64 12))⟩,
     ⟨(some 33), none, .pick (.tmp 29) (.tmp 32) (.const (.bool false))⟩,
     ⟨(some 2), none, .mov (.tmp 33)⟩])
  (.ret)))⟩
theorem st38 : stF Try.prog qt 38 = some il38 := by kernel_rfl
/-- (cascade/tape.Total).Cash -/
def il32 : FnIL := ⟨14, [.tmp 2],
  .seq (.reg [
     ⟨(some 1), none, .box (.tmp 0)⟩,
     ⟨(some 2), none, .mov (.const (.int .i64 0))⟩])
  (.seq (.reg [
     ⟨(some 3), none, .fadr 0 (.tmp 1)⟩,
     ⟨(some 4), none, .load (.tmp 3) none⟩,
     ⟨(some 5), none, .fadr 1 (.tmp 1)⟩,
     ⟨(some 6), none, .load (.tmp 5) none⟩,
     ⟨(some 7), none, .bin .add (.tmp 4) (.tmp 6)⟩,
     ⟨(some 8), none, .fadr 2 (.tmp 1)⟩,
     ⟨(some 9), none, .load (.tmp 8) none⟩,
     ⟨(some 10), none, .bin .add (.tmp 7) (.tmp 9)⟩,
     ⟨(some 11), none, .fadr 3 (.tmp 1)⟩,
     ⟨(some 12), none, .load (.tmp 11) none⟩,
     ⟨(some 13), none, .bin .add (.tmp 10) (.tmp 12)⟩,
     ⟨(some 2), none, .mov (.tmp 13)⟩])
  (.ret))⟩
theorem st32 : stF Try.prog qt 32 = some il32 := by kernel_rfl
def tab : Tab := [(11, il11), (30, il30), (34, il34), (31, il31), (38, il38), (32, il32)]
theorem tabOk : TabOk Try.prog qt tab := by
  intro f F e
  simp only [tab, Tab.find] at e
  repeat' split at e
  all_goals first | (cases e; done) | skip
  · rename_i q; subst q; cases e; exact st11
  · rename_i q; subst q; cases e; exact st30
  · rename_i q; subst q; cases e; exact st34
  · rename_i q; subst q; cases e; exact st31
  · rename_i q; subst q; cases e; exact st38
  · rename_i q; subst q; cases e; exact st32
theorem run : fnF tab qt 10000 20 11 [] [] = some (.bool true, []) := by kernel_rfl
theorem sim : Sim Try.prog 11 [] [] fun v h => v = .bool true ∧ h = [] := fnF_ok (by kernel_rfl) tabOk 10000 20 11 [] [] _ _ run
end Go.Proofs.Ytjnppjipoibbeaa.ClTapeRuns
