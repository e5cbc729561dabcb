/-
  tests: of a view, all, fails, clean: what they answer.
-/
import Derived.Test.YtjnppjipoibbeaaLwLateRatios
import Derived.Test.YtjnppjipoibbeaaClTestsRuns
import Derived.Test.YtjnppjipoibbeaaAm24
import Derived.Test.YtjnppjipoibbeaaLb1
namespace Go.Proofs.Ytjnppjipoibbeaa.Tests
open Go.Am Late lateRatios
set_option linter.all false
set_option maxRecDepth 100000
abbrev qt : List Nat := [3,7,15,16,17,18,19,20,21,22,23,36]
def ocB (t a b : Int) : Bool := (t == 0) || alB a b t
def moB (t a b : Int) : Bool := (t == 0) || amB a b t
def failsB (a c d : Bool) : Bool := !a || (!c || !d)
def allB (a b c d : Bool) : Bool := b && !(failsB a c d)
def cleanB (t a b : Int) : Bool := (t != 0) && amB a b t
def sOf : List Value → Option (Bool × Value)
  | [.agg a, .agg b] => match intsOf a.toList, intsOf b.toList with
    | some [t0, t1, t2, t3, t4], some [v0, v1, v2, v3, v4, v5, v6] => some (true, .agg ⟨[.bool (ocB t0 v0 v2), .bool (ocB t1 v3 v4), .bool (moB t2 v5 v0), .bool (moB t3 v6 v1)]⟩)
    | _, _ => none
  | _ => none
def sClean : List Value → Option (Bool × Value)
  | [.agg a, .agg b] => match intsOf a.toList, intsOf b.toList with
    | some [t0, t1, t2, t3, t4], some [v0, v1, v2, v3, v4, v5, v6] => some (true, .bool (cleanB t4 v0 v1))
    | _, _ => none
  | _ => none
def sAmount : List Value → Option (Bool × Value)
  | [.int .i64 x] => some (preWithin 0 1099511627776, .int .i64 (wn x 0 1099511627776))
  | _ => none
def sFails : List Value → Option (Bool × Value)
  | [.agg a] => match boolsOf a.toList with
    | some [b0, b1, b2, b3] => some (true, .bool (failsB b0 b2 b3))
    | _ => none
  | _ => none
def sAll : List Value → Option (Bool × Value)
  | [.agg a] => match boolsOf a.toList with
    | some [b0, b1, b2, b3] => some (true, .bool (allB b0 b1 b2 b3))
    | _ => none
  | _ => none
def tbl17 : Plain := [(17, sFails)]
def tblT : Plain := [(19, sWithin), (3, sTrue), (15, sOf), (16, sAll), (17, sFails), (18, sClean), (20, sAmount)]
/-- cascade/tests.Of -/
def il15 : FnIL := ⟨54, [.cell 4 (some 4)],
  .seq (.reg [
     ⟨(some 2), none, .box (.tmp 0)⟩,
     ⟨(some 3), none, .box (.tmp 1)⟩,
     ⟨(some 4), none, .alloc [(.bool false), (.bool false), (.bool false), (.bool false)]⟩])
  (.seq (.dreg [
     ⟨(some 5), none, .fadr 0 (.tmp 2)⟩,
     ⟨(some 6), none, .load (.tmp 5) none⟩,
     ⟨(some 7), none, .bin .eql (.tmp 6) (.const (.int .i64 0))⟩,
     ⟨(some 8), none, .mov (.tmp 7)⟩,
     ⟨(some 9), (some (8, false)), .fadr 0 (.tmp 3)⟩,
     ⟨(some 10), (some (8, false)), .load (.tmp 9) none⟩,
     ⟨(some 11), (some (8, false)), .fadr 2 (.tmp 3)⟩,
     ⟨(some 12), (some (8, false)), .load (.tmp 11) none⟩,
     ⟨(some 13), (some (8, false)), .fadr 0 (.tmp 2)⟩,
     ⟨(some 14), (some (8, false)), .load (.tmp 13) none⟩,
     ⟨(some 15), (some (8, false)), .call 22 [(.tmp 10), (.tmp 12), (.tmp 14)]⟩,
     ⟨(some 16), none, .pick (.tmp 8) (.const (.bool true)) (.tmp 15)⟩,
     ⟨(some 17), none, .fadr 1 (.tmp 2)⟩,
     ⟨(some 18), none, .load (.tmp 17) none⟩,
     ⟨(some 19), none, .bin .eql (.tmp 18) (.const (.int .i64 0))⟩,
     ⟨(some 20), none, .mov (.tmp 19)⟩,
     ⟨(some 21), (some (20, false)), .fadr 3 (.tmp 3)⟩,
     ⟨(some 22), (some (20, false)), .load (.tmp 21) none⟩,
     ⟨(some 23), (some (20, false)), .fadr 4 (.tmp 3)⟩,
     ⟨(some 24), (some (20, false)), .load (.tmp 23) none⟩,
     ⟨(some 25), (some (20, false)), .fadr 1 (.tmp 2)⟩,
     ⟨(some 26), (some (20, false)), .load (.tmp 25) none⟩,
     ⟨(some 27), (some (20, false)), .call 22 [(.tmp 22), (.tmp 24), (.tmp 26)]⟩,
     ⟨(some 28), none, .pick (.tmp 20) (.const (.bool true)) (.tmp 27)⟩,
     ⟨(some 29), none, .fadr 2 (.tmp 2)⟩,
     ⟨(some 30), none, .load (.tmp 29) none⟩,
     ⟨(some 31), none, .bin .eql (.tmp 30) (.const (.int .i64 0))⟩,
     ⟨(some 32), none, .mov (.tmp 31)⟩,
     ⟨(some 33), (some (32, false)), .fadr 5 (.tmp 3)⟩,
     ⟨(some 34), (some (32, false)), .load (.tmp 33) none⟩,
     ⟨(some 35), (some (32, false)), .fadr 0 (.tmp 3)⟩,
     ⟨(some 36), (some (32, false)), .load (.tmp 35) none⟩,
     ⟨(some 37), (some (32, false)), .fadr 2 (.tmp 2)⟩,
     ⟨(some 38), (some (32, false)), .load (.tmp 37) none⟩,
     ⟨(some 39), (some (32, false)), .call 23 [(.tmp 34), (.tmp 36), (.tmp 38)]⟩,
     ⟨(some 40), none, .pick (.tmp 32) (.const (.bool true)) (.tmp 39)⟩,
     ⟨(some 41), none, .fadr 3 (.tmp 2)⟩,
     ⟨(some 42), none, .load (.tmp 41) none⟩,
     ⟨(some 43), none, .bin .eql (.tmp 42) (.const (.int .i64 0))⟩,
     ⟨(some 44), none, .mov (.tmp 43)⟩,
     ⟨(some 45), (some (44, false)), .fadr 6 (.tmp 3)⟩,
     ⟨(some 46), (some (44, false)), .load (.tmp 45) none⟩,
     ⟨(some 47), (some (44, false)), .fadr 1 (.tmp 3)⟩,
     ⟨(some 48), (some (44, false)), .load (.tmp 47) none⟩,
     ⟨(some 49), (some (44, false)), .fadr 3 (.tmp 2)⟩,
     ⟨(some 50), (some (44, false)), .load (.tmp 49) none⟩,
     ⟨(some 51), (some (44, false)), .call 23 [(.tmp 46), (.tmp 48), (.tmp 50)]⟩,
     ⟨(some 52), none, .pick (.tmp 44) (.const (.bool true)) (.tmp 51)⟩,
     ⟨(some 53), none, .build [(.bool false), (.bool false), (.bool false), (.bool false)] [(0, 1, (.tmp 16)), (1, 1, (.tmp 28)), (2, 1, (.tmp 40)), (3, 1, (.tmp 52))]⟩,
     ⟨none, none, .store (.tmp 4) (.tmp 53) 4⟩] [])
  (.ret))⟩
theorem st15 : stF Try.prog qt 15 = some il15 := by kernel_rfl
def hn15 : Hj := (.join 8 (.con (.con (.con (.con (.con (.con (.con (.con .nil)))))))) (.con (.con (.con (.con (.con (.con (.con (.con .nil)))))))) (.join 8 (.con (.con (.con (.con (.con (.con (.con (.con .nil)))))))) (.con (.con (.con (.con (.con (.con (.con (.con .nil)))))))) (.join 8 (.con (.con (.con (.con (.con (.con (.con (.con .nil)))))))) (.con (.con (.con (.con (.con (.con (.con (.con .nil)))))))) (.join 8 (.con (.con (.con (.con (.con (.con (.con (.con .nil)))))))) (.con (.con (.con (.con (.con (.con (.con (.con .nil)))))))) .nil))))
theorem tree15 (t0 t1 t2 t3 t4 : Int) (v0 v1 v2 v3 v4 v5 v6 : Int) : fnU tblL noEnv 100 il15 hn15 [(.agg ⟨[.int .i64 t0, .int .i64 t1, .int .i64 t2, .int .i64 t3, .int .i64 t4]⟩), (.agg ⟨[.int .i64 v0, .int .i64 v1, .int .i64 v2, .int .i64 v3, .int .i64 v4, .int .i64 v5, .int .i64 v6]⟩)] [] =
(.req true (.req (bif (t0 == 0) then true else true) (.req (bif (t1 == 0) then true else true) (.req (bif (t2 == 0) then true else true) (.req (bif (t3 == 0) then true else true) (.ret (.agg ⟨[(.bool (bif (t0 == 0) then true else (alB v0 v2 t0))), (.bool (bif (t1 == 0) then true else (alB v3 v4 t1))), (.bool (bif (t2 == 0) then true else (amB v5 v0 t2))), (.bool (bif (t3 == 0) then true else (amB v6 v1 t3)))]⟩) [])))))) := by kernel_rfl
/-- cascade/tests.Clean -/
def il18 : FnIL := ⟨17, [.tmp 4],
  .seq (.reg [
     ⟨(some 2), none, .box (.tmp 0)⟩,
     ⟨(some 3), none, .box (.tmp 1)⟩,
     ⟨(some 4), none, .mov (.const (.bool false))⟩])
  (.seq (.reg [
     ⟨(some 5), none, .fadr 4 (.tmp 2)⟩,
     ⟨(some 6), none, .load (.tmp 5) none⟩,
     ⟨(some 7), none, .bin .neq (.tmp 6) (.const (.int .i64 0))⟩,
     ⟨(some 8), none, .mov (.tmp 7)⟩,
     ⟨(some 9), (some (8, true)), .fadr 0 (.tmp 3)⟩,
     ⟨(some 10), (some (8, true)), .load (.tmp 9) none⟩,
     ⟨(some 11), (some (8, true)), .fadr 1 (.tmp 3)⟩,
     ⟨(some 12), (some (8, true)), .load (.tmp 11) none⟩,
     ⟨(some 13), (some (8, true)), .fadr 4 (.tmp 2)⟩,
     ⟨(some 14), (some (8, true)), .load (.tmp 13) none⟩,
     ⟨(some 15), (some (8, true)), .call 23 [(.tmp 10), (.tmp 12), (.tmp 14)]⟩,
     ⟨(some 16), none, .pick (.tmp 8) (.tmp 15) (.const (.bool false))⟩,
     ⟨(some 4), none, .mov (.tmp 16)⟩])
  (.ret))⟩
theorem st18 : stF Try.prog qt 18 = some il18 := by kernel_rfl
def hn18 : Hj := (.join 8 (.con (.con (.con (.con (.con (.con (.con (.con .nil)))))))) (.con (.con (.con (.con (.con (.con (.con (.con .nil)))))))) .nil)
theorem tree18 (t0 t1 t2 t3 t4 : Int) (v0 v1 v2 v3 v4 v5 v6 : Int) : fnU tblL noEnv 100 il18 hn18 [(.agg ⟨[.int .i64 t0, .int .i64 t1, .int .i64 t2, .int .i64 t3, .int .i64 t4]⟩), (.agg ⟨[.int .i64 v0, .int .i64 v1, .int .i64 v2, .int .i64 v3, .int .i64 v4, .int .i64 v5, .int .i64 v6]⟩)] [] =
(.req (bif (t4 != 0) then true else true) (.ret (.bool (bif (t4 != 0) then (amB v0 v1 t4) else false)) [])) := by kernel_rfl
/-- cascade/cascadelaw15.amount -/
def il20 : FnIL := ⟨5, [.tmp 2],
  .seq (.reg [
     ⟨(some 2), none, .mov (.const (.int .i64 0))⟩])
  (.seq (.reg [
     ⟨(some 3), none, .mov (.tmp 0)⟩,
     ⟨(some 4), none, .call 19 [(.tmp 3), (.const (.int .i64 0)), (.const (.int .i64 1099511627776))]⟩,
     ⟨(some 2), none, .mov (.tmp 4)⟩])
  (.ret))⟩
theorem st20 : stF Try.prog qt 20 = some il20 := by kernel_rfl
def hn20 : Hj := .nil
theorem tree20 (x0 : Int) : fnU tblL noEnv 100 il20 hn20 [.int .i64 x0] [] =
(.req (preWithin 0 1099511627776) (.ret (.int .i64 (wn x0 0 1099511627776)) [])) := by kernel_rfl
/-- (cascade/tests.Result).Fails -/
def il17 : FnIL := ⟨16, [.tmp 2],
  .seq (.reg [
     ⟨(some 1), none, .box (.tmp 0)⟩,
     ⟨(some 2), none, .mov (.const (.bool false))⟩])
  (.seq (.reg [
     ⟨(some 3), none, .fadr 0 (.tmp 1)⟩,
     ⟨(some 4), none, .load (.tmp 3) none⟩,
     ⟨(some 5), none, .un .not (.tmp 4)⟩,
     ⟨(some 6), none, .mov (.tmp 5)⟩,
     ⟨(some 7), (some (6, false)), .fadr 2 (.tmp 1)⟩,
     ⟨(some 8), (some (6, false)), .load (.tmp 7) none⟩,
     ⟨(some 9), (some (6, false)), .un .not (.tmp 8)⟩,
     ⟨(some 10), none, .pick (.tmp 6) (.const (.bool true)) (.tmp 9)⟩,
     ⟨(some 11), none, .mov (.tmp 10)⟩,
     ⟨(some 12), (some (11, false)), .fadr 3 (.tmp 1)⟩,
     ⟨(some 13), (some (11, false)), .load (.tmp 12) none⟩,
     ⟨(some 14), (some (11, false)), .un .not (.tmp 13)⟩,
     ⟨(some 15), none, .pick (.tmp 11) (.const (.bool true)) (.tmp 14)⟩,
     ⟨(some 2), none, .mov (.tmp 15)⟩])
  (.ret))⟩
theorem st17 : stF Try.prog qt 17 = some il17 := by kernel_rfl
def hn17 : Hj := (.join 4 (.con (.con (.con (.con .nil)))) (.con (.con (.con (.con .nil)))) (.join 4 (.con (.con (.con (.con .nil)))) (.con (.con (.con (.con .nil)))) .nil))
theorem tree17 (b0 b1 b2 b3 : Bool) : fnU [] noEnv 100 il17 hn17 [.agg ⟨[.bool b0, .bool b1, .bool b2, .bool b3]⟩] [] =
(.req (bif (!b0) then true else true) (.req (bif (bif (!b0) then true else (!b2)) then true else true) (.ret (.bool (bif (bif (!b0) then true else (!b2)) then true else (!b3))) []))) := by kernel_rfl
/-- (cascade/tests.Result).All -/
def il16 : FnIL := ⟨10, [.tmp 2],
  .seq (.reg [
     ⟨(some 1), none, .box (.tmp 0)⟩,
     ⟨(some 2), none, .mov (.const (.bool false))⟩])
  (.seq (.reg [
     ⟨(some 3), none, .fadr 1 (.tmp 1)⟩,
     ⟨(some 4), none, .load (.tmp 3) none⟩,
     ⟨(some 5), none, .mov (.tmp 4)⟩,
     ⟨(some 6), (some (5, true)), .load (.tmp 1) (some 4)⟩,
     ⟨(some 7), (some (5, true)), .call 17 [(.tmp 6)]⟩,
     ⟨(some 8), (some (5, true)), .un .not (.tmp 7)⟩,
     ⟨(some 9), none, .pick (.tmp 5) (.tmp 8) (.const (.bool false))⟩,
     ⟨(some 2), none, .mov (.tmp 9)⟩])
  (.ret))⟩
theorem st16 : stF Try.prog qt 16 = some il16 := by kernel_rfl
def hn16 : Hj := (.join 4 (.con (.con (.con (.con .nil)))) (.con (.con (.con (.con .nil)))) .nil)
theorem tree16 (b0 b1 b2 b3 : Bool) : fnU tbl17 noEnv 100 il16 hn16 [.agg ⟨[.bool b0, .bool b1, .bool b2, .bool b3]⟩] [] =
(.req (bif b1 then true else true) (.ret (.bool (bif b1 then (!(failsB b0 b2 b3)) else false)) [])) := by kernel_rfl
/-- cascade/cascadelaw15.TestsZero -/
def il6 : FnIL := ⟨62, [.tmp 4],
  .seq (.reg [
     ⟨(some 2), none, .box (.tmp 0)⟩,
     ⟨(some 3), none, .box (.tmp 1)⟩,
     ⟨(some 4), none, .mov (.const (.bool false))⟩])
  (.seq (.reg [
     ⟨(some 9), none, .build [(.int .i64 0), (.int .i64 0), (.int .i64 0), (.int .i64 0), (.int .i64 0)] []⟩,
     ⟨(some 10), none, .load (.tmp 2) (some 7)⟩,
     ⟨(some 11), none, .call 15 [(.tmp 9), (.tmp 10)]⟩,
     ⟨(some 5), none, .alloc [(.bool false), (.bool false), (.bool false), (.bool false)]⟩,
     ⟨none, none, .store (.tmp 5) (.tmp 11) 4⟩])
  (.seq (.seq (.reg [
      ⟨(some 12), none, .fadr 0 (.tmp 3)⟩,
      ⟨(some 13), none, .fadr 1 (.tmp 3)⟩,
      ⟨(some 14), none, .fadr 2 (.tmp 3)⟩,
      ⟨(some 15), none, .fadr 3 (.tmp 3)⟩,
      ⟨(some 16), none, .mkrow [(.pointer none), (.pointer none), (.pointer none), (.pointer none)] 4 [(0, 1, (.tmp 12)), (1, 1, (.tmp 13)), (2, 1, (.tmp 14)), (3, 1, (.tmp 15))]⟩,
      ⟨(some 17), none, .len (.tmp 16)⟩,
      ⟨(some 18), none, .mov (.const (.int .i64 0))⟩])
   (.block 0
     (.loop
       (.seq (.reg [
          ⟨(some 19), none, .bin .lss (.tmp 18) (.tmp 17)⟩])
       (.seq (.ite (.tmp 19)
          (.skip)
          (.exit 0))
       (.seq (.block 1
          (.seq (.reg [
             ⟨(some 20), none, .iadr 1 none (.tmp 16) (.tmp 18)⟩,
             ⟨(some 21), none, .load (.tmp 20) none⟩,
             ⟨(some 7), none, .mov (.tmp 21)⟩])
          (.reg [
            ⟨(some 22), none, .mov (.tmp 7)⟩,
            ⟨(some 23), none, .mov (.tmp 7)⟩,
            ⟨(some 24), none, .nilck (.tmp 23)⟩,
            ⟨(some 25), none, .load (.tmp 24) none⟩,
            ⟨(some 26), none, .call 19 [(.tmp 25), (.const (.int .i64 0)), (.const (.int .i64 100000))]⟩,
            ⟨(some 27), none, .nilck (.tmp 22)⟩,
            ⟨none, none, .store (.tmp 27) (.tmp 26) 1⟩])))
       (.reg [
         ⟨(some 28), none, .bin .add (.tmp 18) (.const (.int .i64 1))⟩,
         ⟨(some 18), none, .mov (.tmp 28)⟩])))))))
  (.seq (.reg [
     ⟨(some 29), none, .fadr 4 (.tmp 3)⟩,
     ⟨(some 30), none, .load (.tmp 29) none⟩,
     ⟨(some 31), none, .call 19 [(.tmp 30), (.const (.int .i64 0)), (.const (.int .i64 99999))]⟩,
     ⟨(some 32), none, .bin .add (.const (.int .i64 1)) (.tmp 31)⟩,
     ⟨(some 33), none, .fadr 4 (.tmp 3)⟩,
     ⟨none, none, .store (.tmp 33) (.tmp 32) 1⟩])
  (.seq (.reg [
     ⟨(some 34), none, .load (.tmp 3) (some 5)⟩,
     ⟨(some 35), none, .build [(.int .i64 0), (.int .i64 0), (.int .i64 0), (.int .i64 0), (.int .i64 0), (.int .i64 0), (.int .i64 0)] []⟩,
     ⟨(some 36), none, .call 15 [(.tmp 34), (.tmp 35)]⟩,
     ⟨(some 8), none, .alloc [(.bool false), (.bool false), (.bool false), (.bool false)]⟩,
     ⟨none, none, .store (.tmp 8) (.tmp 36) 4⟩])
  (.seq (.reg [
     ⟨(some 37), none, .load (.tmp 5) (some 4)⟩,
     ⟨(some 38), none, .call 16 [(.tmp 37)]⟩,
     ⟨(some 39), none, .mov (.tmp 38)⟩,
     ⟨(some 40), (some (39, true)), .load (.tmp 5) (some 4)⟩,
     ⟨(some 41), (some (39, true)), .call 17 [(.tmp 40)]⟩,
     ⟨(some 42), (some (39, true)), .un .not (.tmp 41)⟩,
     ⟨(some 43), none, .pick (.tmp 39) (.tmp 42) (.const (.bool false))⟩,
     ⟨(some 44), none, .mov (.tmp 43)⟩,
     ⟨(some 45), (some (44, true)), .build [(.int .i64 0), (.int .i64 0), (.int .i64 0), (.int .i64 0), (.int .i64 0)] []⟩,
     ⟨(some 46), (some (44, true)), .load (.tmp 2) (some 7)⟩,
     ⟨(some 47), (some (44, true)), .call 18 [(.tmp 45), (.tmp 46)]⟩,
     ⟨(some 48), (some (44, true)), .un .not (.tmp 47)⟩,
     ⟨(some 49), none, .pick (.tmp 44) (.tmp 48) (.const (.bool false))⟩,
     ⟨(some 50), none, .mov (.tmp 49)⟩,
     ⟨(some 51), (some (50, true)), .load (.tmp 8) (some 4)⟩,
     ⟨(some 52), (some (50, true)), .call 16 [(.tmp 51)]⟩,
     ⟨(some 53), none, .pick (.tmp 50) (.tmp 52) (.const (.bool false))⟩,
     ⟨(some 54), none, .mov (.tmp 53)⟩,
     ⟨(some 55), (some (54, true)), .load (.tmp 3) (some 5)⟩,
     ⟨(some 56), (some (54, true)), .build [(.int .i64 0), (.int .i64 0), (.int .i64 0), (.int .i64 0), (.int .i64 0), (.int .i64 0), (.int .i64 0)] []⟩,
     ⟨(some 57), (some (54, true)), .call 18 [(.tmp 55), (.tmp 56)]⟩,
     ⟨(some 58), none, .pick (.tmp 54) (.tmp 57) (.const (.bool false))⟩,
     ⟨(some 59), none, .mov (.tmp 58)⟩,
     ⟨(some 60), (some (59, true)), .call 3 []⟩,
     ⟨(some 61), none, .pick (.tmp 59) (.tmp 60) (.const (.bool false))⟩,
     ⟨(some 4), none, .mov (.tmp 61)⟩])
  (.ret))))))⟩
theorem st6 : stF Try.prog qt 6 = some il6 := by kernel_rfl
def hn6 : Hj := (.con (.con (.con (.con (.con (.join 4 (.con (.con (.con (.con .nil)))) (.con (.con (.con (.con .nil)))) (.join 5 (.con (.con (.con (.con (.con .nil))))) (.con (.con (.con (.con (.con .nil))))) (.join 3 (.con (.con (.con .nil))) (.con (.con (.con .nil))) (.join 4 (.con (.con (.con (.con .nil)))) (.con (.con (.con (.con .nil)))) (.join 2 (.con (.con .nil)) (.con (.con .nil)) .nil))))))))))
theorem tree6 (v0 v1 v2 v3 v4 v5 v6 : Int) (t0 t1 t2 t3 t4 : Int) : fnU tblT noEnv 200 il6 hn6 [(.agg ⟨[.int .i64 v0, .int .i64 v1, .int .i64 v2, .int .i64 v3, .int .i64 v4, .int .i64 v5, .int .i64 v6]⟩), (.agg ⟨[.int .i64 t0, .int .i64 t1, .int .i64 t2, .int .i64 t3, .int .i64 t4]⟩)] [] =
(.req true (.req (preWithin 0 100000) (.req (preWithin 0 100000) (.req (preWithin 0 100000) (.req (preWithin 0 100000) (.req (preWithin 0 99999) (.req true (.req true (.req (bif (allB (ocB 0 v0 v2) (ocB 0 v3 v4) (moB 0 v5 v0) (moB 0 v6 v1)) then true else true) (.req (bif (bif (allB (ocB 0 v0 v2) (ocB 0 v3 v4) (moB 0 v5 v0) (moB 0 v6 v1)) then (!(failsB (ocB 0 v0 v2) (moB 0 v5 v0) (moB 0 v6 v1))) else false) then true else true) (.req (bif (bif (bif (allB (ocB 0 v0 v2) (ocB 0 v3 v4) (moB 0 v5 v0) (moB 0 v6 v1)) then (!(failsB (ocB 0 v0 v2) (moB 0 v5 v0) (moB 0 v6 v1))) else false) then (!(cleanB 0 v0 v1)) else false) then true else true) (.req (bif (bif (bif (bif (allB (ocB 0 v0 v2) (ocB 0 v3 v4) (moB 0 v5 v0) (moB 0 v6 v1)) then (!(failsB (ocB 0 v0 v2) (moB 0 v5 v0) (moB 0 v6 v1))) else false) then (!(cleanB 0 v0 v1)) else false) then (allB (ocB (wn t0 0 100000) 0 0) (ocB (wn t1 0 100000) 0 0) (moB (wn t2 0 100000) 0 0) (moB (wn t3 0 100000) 0 0)) else false) then true else true) (.req (bif (bif (bif (bif (bif (allB (ocB 0 v0 v2) (ocB 0 v3 v4) (moB 0 v5 v0) (moB 0 v6 v1)) then (!(failsB (ocB 0 v0 v2) (moB 0 v5 v0) (moB 0 v6 v1))) else false) then (!(cleanB 0 v0 v1)) else false) then (allB (ocB (wn t0 0 100000) 0 0) (ocB (wn t1 0 100000) 0 0) (moB (wn t2 0 100000) 0 0) (moB (wn t3 0 100000) 0 0)) else false) then (cleanB (IntKind.wrap .i64 (1 + (wn t4 0 99999))) 0 0) else false) then true else true) (.ret (.bool (bif (bif (bif (bif (bif (allB (ocB 0 v0 v2) (ocB 0 v3 v4) (moB 0 v5 v0) (moB 0 v6 v1)) then (!(failsB (ocB 0 v0 v2) (moB 0 v5 v0) (moB 0 v6 v1))) else false) then (!(cleanB 0 v0 v1)) else false) then (allB (ocB (wn t0 0 100000) 0 0) (ocB (wn t1 0 100000) 0 0) (moB (wn t2 0 100000) 0 0) (moB (wn t3 0 100000) 0 0)) else false) then (cleanB (IntKind.wrap .i64 (1 + (wn t4 0 99999))) 0 0) else false) then true else false)) [])))))))))))))) := by kernel_rfl

theorem of_sim (t0 t1 t2 t3 t4 v0 v1 v2 v3 v4 v5 v6 : Int) : Sim Try.prog 15 [(.agg ⟨[.int .i64 t0, .int .i64 t1, .int .i64 t2, .int .i64 t3, .int .i64 t4]⟩), (.agg ⟨[.int .i64 v0, .int .i64 v1, .int .i64 v2, .int .i64 v3, .int .i64 v4, .int .i64 v5, .int .i64 v6]⟩)] [] fun v _ => v = .agg ⟨[.bool (ocB t0 v0 v2), .bool (ocB t1 v3 v4), .bool (moB t2 v5 v0), .bool (moB t3 v6 v1)]⟩ := by
  refine fnU_sim mixed (Plain.ok okL noEnv_ok) (Plain.quiet noEnv_quiet) st15 (fuel := 100) (hn := hn15) ?_
  rw [tree15]
  refine ⟨rfl, by simp, by simp, by simp, by simp, ?_⟩
  show Value.agg _ = _
  simp only [ocB, moB, Bool.cond_true_left]
theorem clean_sim (t0 t1 t2 t3 t4 v0 v1 v2 v3 v4 v5 v6 : Int) : Sim Try.prog 18 [(.agg ⟨[.int .i64 t0, .int .i64 t1, .int .i64 t2, .int .i64 t3, .int .i64 t4]⟩), (.agg ⟨[.int .i64 v0, .int .i64 v1, .int .i64 v2, .int .i64 v3, .int .i64 v4, .int .i64 v5, .int .i64 v6]⟩)] [] fun v _ => v = .bool (cleanB t4 v0 v1) := by
  refine fnU_sim mixed (Plain.ok okL noEnv_ok) (Plain.quiet noEnv_quiet) st18 (fuel := 100) (hn := hn18) ?_
  rw [tree18]
  refine ⟨by simp, ?_⟩
  show Value.bool _ = _
  simp only [cleanB, Bool.cond_false_right]
theorem fails_sim (b0 b1 b2 b3 : Bool) : Sim Try.prog 17 [.agg ⟨[.bool b0, .bool b1, .bool b2, .bool b3]⟩] [] fun v _ => v = .bool (failsB b0 b2 b3) := by
  refine fnU_sim mixed (T := []) (Γ := noEnv) (Plain.ok .nil noEnv_ok) (Plain.quiet noEnv_quiet) st17 (fuel := 100) (hn := hn17) ?_
  rw [tree17]
  refine ⟨by simp, by simp, ?_⟩
  show Value.bool _ = _
  cases b0 <;> cases b2 <;> cases b3 <;> rfl
theorem stW : stF Try.prog qt 19 = some ilWithin := by kernel_rfl
theorem ok17 : PlainOk Try.prog tbl17 := .cons (fun args v e => by
  unfold sFails at e
  split at e
  · rename_i a
    split at e
    · rename_i b0 b1 b2 b3 h
      cases e
      obtain ⟨l⟩ := a
      have := boolsOf_eq h
      dsimp only at this
      subst this
      refine ⟨rfl, rfl, ?_⟩
      show Sim Try.prog 17 [.agg ⟨[.bool b0, .bool b1, .bool b2, .bool b3]⟩] [] _
      exact fails_sim b0 b1 b2 b3
    · cases e
  · cases e) .nil
theorem all_sim (b0 b1 b2 b3 : Bool) : Sim Try.prog 16 [.agg ⟨[.bool b0, .bool b1, .bool b2, .bool b3]⟩] [] fun v _ => v = .bool (allB b0 b1 b2 b3) := by
  refine fnU_sim mixed (Plain.ok ok17 noEnv_ok) (Plain.quiet noEnv_quiet) st16 (fuel := 100) (hn := hn16) ?_
  rw [tree16]
  refine ⟨by simp, ?_⟩
  show Value.bool _ = _
  cases b0 <;> cases b1 <;> cases b2 <;> cases b3 <;> rfl
theorem amount_sim (x : Int) : Sim Try.prog 20 [.int .i64 x] [] fun v _ => v = .int .i64 (wn x 0 1099511627776) := by
  refine fnU_sim mixed (Plain.ok okL noEnv_ok) (Plain.quiet noEnv_quiet) st20 (fuel := 100) (hn := hn20) ?_
  rw [tree20]
  exact ⟨by decide, rfl⟩
theorem entOf (args : List Value) (v : Value) (e : sOf args = some (true, v)) : args.all (belowV 0) = true ∧ belowV 0 v = true ∧ Sim Try.prog 15 args [] fun v1 _ => v1 = v := by
  unfold sOf at e
  split at e
  · rename_i a b
    split at e
    · rename_i t0 t1 t2 t3 t4 v0 v1 v2 v3 v4 v5 v6 h1 h2
      cases e
      obtain ⟨l⟩ := a
      obtain ⟨m⟩ := b
      have e1 := intsOf_eq h1
      have e2 := intsOf_eq h2
      dsimp only at e1 e2
      subst e1 e2
      refine ⟨rfl, rfl, ?_⟩
      show Sim Try.prog 15 [(.agg ⟨[.int .i64 t0, .int .i64 t1, .int .i64 t2, .int .i64 t3, .int .i64 t4]⟩), (.agg ⟨[.int .i64 v0, .int .i64 v1, .int .i64 v2, .int .i64 v3, .int .i64 v4, .int .i64 v5, .int .i64 v6]⟩)] [] _
      exact of_sim t0 t1 t2 t3 t4 v0 v1 v2 v3 v4 v5 v6
    · cases e
  · cases e
theorem entAll (args : List Value) (v : Value) (e : sAll args = some (true, v)) : args.all (belowV 0) = true ∧ belowV 0 v = true ∧ Sim Try.prog 16 args [] fun v1 _ => v1 = v := by
  unfold sAll at e
  split at e
  · rename_i a
    split at e
    · rename_i b0 b1 b2 b3 h
      cases e
      obtain ⟨l⟩ := a
      have := boolsOf_eq h
      dsimp only at this
      subst this
      refine ⟨rfl, rfl, ?_⟩
      show Sim Try.prog 16 [.agg ⟨[.bool b0, .bool b1, .bool b2, .bool b3]⟩] [] _
      exact all_sim b0 b1 b2 b3
    · cases e
  · cases e
theorem entClean (args : List Value) (v : Value) (e : sClean args = some (true, v)) : args.all (belowV 0) = true ∧ belowV 0 v = true ∧ Sim Try.prog 18 args [] fun v1 _ => v1 = v := by
  unfold sClean at e
  split at e
  · rename_i a b
    split at e
    · rename_i t0 t1 t2 t3 t4 v0 v1 v2 v3 v4 v5 v6 h1 h2
      cases e
      obtain ⟨l⟩ := a
      obtain ⟨m⟩ := b
      have e1 := intsOf_eq h1
      have e2 := intsOf_eq h2
      dsimp only at e1 e2
      subst e1 e2
      refine ⟨rfl, rfl, ?_⟩
      show Sim Try.prog 18 [(.agg ⟨[.int .i64 t0, .int .i64 t1, .int .i64 t2, .int .i64 t3, .int .i64 t4]⟩), (.agg ⟨[.int .i64 v0, .int .i64 v1, .int .i64 v2, .int .i64 v3, .int .i64 v4, .int .i64 v5, .int .i64 v6]⟩)] [] _
      exact clean_sim t0 t1 t2 t3 t4 v0 v1 v2 v3 v4 v5 v6
    · cases e
  · cases e
theorem okT : PlainOk Try.prog tblT := .cons (within_ok mixed stW) <| .cons (fun args v e => by
  unfold sTrue at e
  split at e
  · cases e
    exact ⟨rfl, rfl, ClTestsRuns.sim.mono fun v h q => q.1⟩
  · cases e) <| .cons entOf <| .cons entAll <| .cons (ok17 17) <| .cons entClean <| .cons (fun args v e => by
  unfold sAmount at e
  split at e
  · rename_i x
    simp only [Option.some.injEq, Prod.mk.injEq] at e
    obtain ⟨_, rfl⟩ := e
    exact ⟨rfl, rfl, amount_sim x⟩
  · cases e) .nil

theorem oc0 (a b : Int) : ocB 0 a b = true := rfl
theorem mo0 (a b : Int) : moB 0 a b = true := rfl
theorem cl0 (a b : Int) : cleanB 0 a b = false := rfl
theorem oc00 {t : Int} (h0 : 0 ≤ t) (h1 : t ≤ 100000) : ocB t 0 0 = true := by
  simp [ocB, alB, mayB, h0, h1]
theorem mo00 {t : Int} (h0 : 0 ≤ t) (h1 : t ≤ 100000) : moB t 0 0 = true := by
  simp [moB, amB, mayB, h0, h1]
theorem cl00 {t : Int} (h0 : 1 ≤ t) (h1 : t ≤ 100000) : cleanB t 0 0 = true := by
  have : ¬ t = 0 := by omega
  have : 0 ≤ t := by omega
  simp [cleanB, amB, mayB, *]
theorem sim6 (v0 v1 v2 v3 v4 v5 v6 t0 t1 t2 t3 t4 : Int) : Sim Try.prog 6 [(.agg ⟨[.int .i64 v0, .int .i64 v1, .int .i64 v2, .int .i64 v3, .int .i64 v4, .int .i64 v5, .int .i64 v6]⟩), (.agg ⟨[.int .i64 t0, .int .i64 t1, .int .i64 t2, .int .i64 t3, .int .i64 t4]⟩)] [] fun v _ => v = .bool true := by
  refine fnU_sim mixed (Plain.ok okT noEnv_ok) (Plain.quiet noEnv_quiet) st6 (fuel := 200) (hn := hn6) ?_
  rw [tree6]
  have g : ∀ x, 0 ≤ wn x 0 100000 ∧ wn x 0 100000 ≤ 100000 := fun x => ⟨wn_lo (by omega), wn_hi (by omega)⟩
  have a4 := wn_lo (x := t4) (lo := 0) (hi := 99999) (by omega)
  have b4 := wn_hi (x := t4) (lo := 0) (hi := 99999) (by omega)
  rw [wrap_id (n := 1 + wn t4 0 99999) (by omega) (by omega)]
  simp only [oc0, mo0, cl0, oc00 (g _).1 (g _).2, mo00 (g _).1 (g _).2, cl00 (t := 1 + wn t4 0 99999) (by omega) (by omega)]
  simp [Tr.holds, allB, failsB, preWithin]
end Go.Proofs.Ytjnppjipoibbeaa.Tests
