/-
  tape: which lines may be, which lists of lines.
-/
import Derived.Test.YtjnppjipoibbeaaPcPlus
namespace Go.Proofs.Ytjnppjipoibbeaa.Tape
open Go.Am
set_option linter.all false
set_option maxRecDepth 100000
abbrev qtR : List Nat := [11,16,17,18,19,20,30,31,32,34,38,39]
def badZ (z : Int) : Bool := decide (z < 0) || decide (z > 1099511627776)
def rightB (x : Ln) : Bool := !(badZ x.b) && (!(badZ x.c) && (!(badZ x.e) && (!(badZ x.f) && (decide (x.g ≥ 0) && decide (x.g ≤ 12)))))
def chk (last : Int) : List Ln → Bool
  | [] => true
  | x :: r => if x.a ≤ last then false else if rightB x then chk x.a r else false
def RightB (l : List Ln) : Bool := decide (l.length ≤ 64) && chk 0 l
def lnOf : List Value → Option Ln
  | [.int .i64 a, .int .i64 b, .int .i64 c, .int .i64 e, .int .i64 f, .int .i64 g, .bool d] => some ⟨a, b, c, e, f, g, d⟩
  | _ => none
theorem lnOf_eq {l : List Value} {x : Ln} (h : lnOf l = some x) : l = x.enc := by
  unfold lnOf at h
  split at h
  · cases h; rfl
  · cases h
def sRight : List Value → Option (Bool × Value)
  | [.agg a] => (lnOf a.toList).map fun x => (true, .bool (rightB x))
  | _ => none
def tblR : Plain := [(19, sWithin), (38, sRight), (11, sTrue)]
/-- cascade/tape.right -/
def il38 : FnIL := ⟨34, [.tmp 2],
  .seq (.reg [
     ⟨(some 1), none, .box (.tmp 0)⟩,
     ⟨(some 2), none, .mov (.const (.bool false))⟩])
  (.seq (.seq (.reg [
      ⟨(some 5), none, .fadr 1 (.tmp 1)⟩,
      ⟨(some 6), none, .load (.tmp 5) none⟩,
      ⟨(some 7), none, .fadr 2 (.tmp 1)⟩,
      ⟨(some 8), none, .load (.tmp 7) none⟩,
      ⟨(some 9), none, .fadr 3 (.tmp 1)⟩,
      ⟨(some 10), none, .load (.tmp 9) none⟩,
      ⟨(some 11), none, .fadr 4 (.tmp 1)⟩,
      ⟨(some 12), none, .load (.tmp 11) none⟩,
      ⟨(some 13), none, .mkrow [(.int .i64 0), (.int .i64 0), (.int .i64 0), (.int .i64 0)] 4 [(0, 1, (.tmp 6)), (1, 1, (.tmp 8)), (2, 1, (.tmp 10)), (3, 1, (.tmp 12))]⟩,
      ⟨(some 14), none, .len (.tmp 13)⟩,
      ⟨(some 15), none, .mov (.const (.int .i64 0))⟩])
   (.block 0
     (.loop
       (.seq (.reg [
          ⟨(some 16), none, .bin .lss (.tmp 15) (.tmp 14)⟩])
       (.seq (.ite (.tmp 16)
          (.skip)
          (.exit 0))
       (.seq (.block 1
          (.seq (.reg [
             ⟨(some 17), none, .iadr 1 none (.tmp 13) (.tmp 15)⟩,
             ⟨(some 18), none, .load (.tmp 17) none⟩,
             ⟨(some 4), none, .mov (.tmp 18)⟩])
          (.seq (.reg [
             ⟨(some 19), none, .mov (.tmp 4)⟩,
             ⟨(some 20), none, .bin .lss (.tmp 19) (.const (.int .i64 0))⟩,
             ⟨(some 21), none, .mov (.tmp 20)⟩,
             ⟨(some 22), (some (21, false)), .mov (.tmp 4)⟩,
             ⟨(some 23), (some (21, false)), .bin .gtr (.tmp 22) (.const (.int .i64 1099511627776))⟩,
             ⟨(some 24), none, .pick (.tmp 21) (.const (.bool true)) (.tmp 23)⟩])
          (.ite (.tmp 24)
            (.seq (.reg [
               ⟨(some 2), none, .mov (.const (.bool false))⟩])
            (.ret))
            (.skip)))))
       (.reg [
         ⟨(some 25), none, .bin .add (.tmp 15) (.const (.int .i64 1))⟩,
         ⟨(some 15), none, .mov (.tmp 25)⟩])))))))
  (.seq (.reg [
     ⟨(some 26), none, .fadr 5 (.tmp 1)⟩,
     ⟨(some 27), none, .load (.tmp 26) none⟩,
     ⟨(some 28), none, .bin .geq (.tmp 27) (.const (.int .i64 0))⟩,
     ⟨(some 29), none, .mov (.tmp 28)⟩,
     ⟨(some 30), (some (29, true)), .fadr 5 (.tmp 1)⟩,
     ⟨(some 31), (some (29, true)), .load (.tmp 30) none⟩,
     ⟨(some 32), (some (29, true)), .bin .leq (.tmp 31) (.const (.int .i64 12))⟩,
     ⟨(some 33), none, .pick (.tmp 29) (.tmp 32) (.const (.bool false))⟩,
     ⟨(some 2), none, .mov (.tmp 33)⟩])
  (.ret)))⟩
theorem st38 : stF Try.prog qtR 38 = some il38 := by kernel_rfl
def hn38 : Hj := (.con (.join 3 (.con (.con (.con .nil))) (.con (.con (.con .nil))) (.sym .nil (.con (.join 3 (.con (.con (.con .nil))) (.con (.con (.con .nil))) (.sym .nil (.con (.join 3 (.con (.con (.con .nil))) (.con (.con (.con .nil))) (.sym .nil (.con (.join 3 (.con (.con (.con .nil))) (.con (.con (.con .nil))) (.sym .nil (.con (.join 4 (.con (.con (.con (.con .nil)))) (.con (.con (.con (.con .nil)))) .nil))))))))))))))
theorem tree38 (a b c e f g : Int) (d : Bool) : fnU [] noEnv 100 il38 hn38 [.agg ⟨[.int .i64 a, .int .i64 b, .int .i64 c, .int .i64 e, .int .i64 f, .int .i64 g, .bool d]⟩] [] =
(.req (bif (decide (b < 0)) then true else true) (.br (bif (decide (b < 0)) then true else (decide (b > 1099511627776)))
 (.ret (.bool false) [])
 (.req (bif (decide (c < 0)) then true else true) (.br (bif (decide (c < 0)) then true else (decide (c > 1099511627776)))
 (.ret (.bool false) [])
 (.req (bif (decide (e < 0)) then true else true) (.br (bif (decide (e < 0)) then true else (decide (e > 1099511627776)))
 (.ret (.bool false) [])
 (.req (bif (decide (f < 0)) then true else true) (.br (bif (decide (f < 0)) then true else (decide (f > 1099511627776)))
 (.ret (.bool false) [])
 (.req (bif (decide (g ≥ 0)) then true else true) (.ret (.bool (bif (decide (g ≥ 0)) then (decide (g ≤ 12)) else false)) [])))))))))) := by kernel_rfl
/-- cascade/tape.Right -/
def il31 : FnIL := ⟨27, [.tmp 2],
  .seq (.reg [
     ⟨(some 2), none, .mov (.const (.bool false))⟩])
  (.seq (.seq (.reg [
      ⟨(some 6), none, .mov (.tmp 0)⟩,
      ⟨(some 7), none, .len (.tmp 6)⟩,
      ⟨(some 8), none, .bin .gtr (.tmp 7) (.const (.int .i64 64))⟩])
   (.ite (.tmp 8)
     (.seq (.reg [
        ⟨(some 2), none, .mov (.const (.bool false))⟩])
     (.ret))
     (.skip)))
  (.seq (.reg [
     ⟨(some 3), none, .mov (.const (.int .i64 0))⟩])
  (.seq (.seq (.reg [
      ⟨(some 9), none, .mov (.tmp 0)⟩,
      ⟨(some 10), none, .len (.tmp 9)⟩,
      ⟨(some 11), none, .mov (.const (.int .i64 0))⟩])
   (.block 0
     (.loop
       (.seq (.reg [
          ⟨(some 12), none, .bin .lss (.tmp 11) (.tmp 10)⟩])
       (.seq (.ite (.tmp 12)
          (.skip)
          (.exit 0))
       (.seq (.block 1
          (.seq (.reg [
             ⟨(some 13), none, .iadr 7 none (.tmp 9) (.tmp 11)⟩,
             ⟨(some 14), none, .load (.tmp 13) (some 7)⟩,
             ⟨(some 5), none, .alloc [(.int .i64 0), (.int .i64 0), (.int .i64 0), (.int .i64 0), (.int .i64 0), (.int .i64 0), (.bool false)]⟩,
             ⟨none, none, .store (.tmp 5) (.tmp 14) 7⟩])
          (.seq (.seq (.reg [
              ⟨(some 15), none, .fadr 0 (.tmp 5)⟩,
              ⟨(some 16), none, .load (.tmp 15) none⟩,
              ⟨(some 17), none, .mov (.tmp 3)⟩,
              ⟨(some 18), none, .bin .leq (.tmp 16) (.tmp 17)⟩,
              ⟨(some 19), none, .mov (.tmp 18)⟩,
              ⟨(some 20), (some (19, false)), .load (.tmp 5) (some 7)⟩,
              ⟨(some 21), (some (19, false)), .call 38 [(.tmp 20)]⟩,
              ⟨(some 22), (some (19, false)), .un .not (.tmp 21)⟩,
              ⟨(some 23), none, .pick (.tmp 19) (.const (.bool true)) (.tmp 22)⟩])
           (.ite (.tmp 23)
             (.seq (.reg [
                ⟨(some 2), none, .mov (.const (.bool false))⟩])
             (.ret))
             (.skip)))
          (.reg [
            ⟨(some 24), none, .fadr 0 (.tmp 5)⟩,
            ⟨(some 25), none, .load (.tmp 24) none⟩,
            ⟨(some 3), none, .mov (.tmp 25)⟩]))))
       (.reg [
         ⟨(some 26), none, .bin .add (.tmp 11) (.const (.int .i64 1))⟩,
         ⟨(some 11), none, .mov (.tmp 26)⟩])))))))
  (.seq (.reg [
     ⟨(some 2), none, .mov (.const (.bool true))⟩])
  (.ret)))))⟩
theorem st31 : stF Try.prog qtR 31 = some il31 := by kernel_rfl
def body31_0 : IL := .seq (.reg [
     ⟨(some 12), none, .bin .lss (.tmp 11) (.tmp 10)⟩])
  (.seq (.ite (.tmp 12)
     (.skip)
     (.exit 0))
  (.seq (.block 1
     (.seq (.reg [
        ⟨(some 13), none, .iadr 7 none (.tmp 9) (.tmp 11)⟩,
        ⟨(some 14), none, .load (.tmp 13) (some 7)⟩,
        ⟨(some 5), none, .alloc [(.int .i64 0), (.int .i64 0), (.int .i64 0), (.int .i64 0), (.int .i64 0), (.int .i64 0), (.bool false)]⟩,
        ⟨none, none, .store (.tmp 5) (.tmp 14) 7⟩])
     (.seq (.seq (.reg [
         ⟨(some 15), none, .fadr 0 (.tmp 5)⟩,
         ⟨(some 16), none, .load (.tmp 15) none⟩,
         ⟨(some 17), none, .mov (.tmp 3)⟩,
         ⟨(some 18), none, .bin .leq (.tmp 16) (.tmp 17)⟩,
         ⟨(some 19), none, .mov (.tmp 18)⟩,
         ⟨(some 20), (some (19, false)), .load (.tmp 5) (some 7)⟩,
         ⟨(some 21), (some (19, false)), .call 38 [(.tmp 20)]⟩,
         ⟨(some 22), (some (19, false)), .un .not (.tmp 21)⟩,
         ⟨(some 23), none, .pick (.tmp 19) (.const (.bool true)) (.tmp 22)⟩])
      (.ite (.tmp 23)
        (.seq (.reg [
           ⟨(some 2), none, .mov (.const (.bool false))⟩])
        (.ret))
        (.skip)))
     (.reg [
       ⟨(some 24), none, .fadr 0 (.tmp 5)⟩,
       ⟨(some 25), none, .load (.tmp 24) none⟩,
       ⟨(some 3), none, .mov (.tmp 25)⟩]))))
  (.reg [
    ⟨(some 26), none, .bin .add (.tmp 11) (.const (.int .i64 1))⟩,
    ⟨(some 11), none, .mov (.tmp 26)⟩])))
def hn31t (s q : Value) (n i l : Int) (a b c e f g : Int) (d : Bool) (H : Heap) : Hj := (.sym (.use 13 q H (.use 14 (.agg ⟨[(.int .i64 a), (.int .i64 b), (.int .i64 c), (.int .i64 e), (.int .i64 f), (.int .i64 g), (.bool d)]⟩) H (.use 9999 (.tuple ⟨[]⟩) (H ++ [some (Blk.mk .fix [(.int .i64 a), (.int .i64 b), (.int .i64 c), (.int .i64 e), (.int .i64 f), (.int .i64 g), (.bool d)])]) (.use 16 (.int .i64 a) (H ++ [some (Blk.mk .fix [(.int .i64 a), (.int .i64 b), (.int .i64 c), (.int .i64 e), (.int .i64 f), (.int .i64 g), (.bool d)])]) (.sym (.con (.con (.con (.con .nil)))) (.use 20 (.agg ⟨[(.int .i64 a), (.int .i64 b), (.int .i64 c), (.int .i64 e), (.int .i64 f), (.int .i64 g), (.bool d)]⟩) (H ++ [some (Blk.mk .fix [(.int .i64 a), (.int .i64 b), (.int .i64 c), (.int .i64 e), (.int .i64 f), (.int .i64 g), (.bool d)])]) (.con (.con (.con (.sym .nil (.use 25 (.int .i64 a) (H ++ [some (Blk.mk .fix [(.int .i64 a), (.int .i64 b), (.int .i64 c), (.int .i64 e), (.int .i64 f), (.int .i64 g), (.bool d)])]) .nil))))))))))) .nil)
theorem tree31t (s q : Value) (n i l : Int) (a b c e f g : Int) (d : Bool) (H : Heap) : pieceT tblR noEnv 100 (fun i => exL i body31_0 || inL [2] i) body31_0 (hn31t s q n i l a b c e f g d H) (fr 27 [(2, (.bool false)), (3, (.int .i64 l)), (9, s), (10, (.int .i64 n)), (11, (.int .i64 i))]) H =
(.br (decide (i < n))
 (.claim (opA (Plain.env tblR noEnv) (.iadr 7 none (.const s) (.const (.int .i64 i))) [] H = some (q, H))
 (.claim (opA (Plain.env tblR noEnv) (.load (.const q) (some 7)) [] H = some ((.agg ⟨[(.int .i64 a), (.int .i64 b), (.int .i64 c), (.int .i64 e), (.int .i64 f), (.int .i64 g), (.bool d)]⟩), H))
 (.claim (opA (Plain.env tblR noEnv) (.store (.const (.pointer (some ⟨(H).length, 0, none⟩))) (.const (.agg ⟨[(.int .i64 a), (.int .i64 b), (.int .i64 c), (.int .i64 e), (.int .i64 f), (.int .i64 g), (.bool d)]⟩)) 7) [] (H ++ [some (Blk.mk .fix [(.int .i64 0), (.int .i64 0), (.int .i64 0), (.int .i64 0), (.int .i64 0), (.int .i64 0), (.bool false)])]) = some ((.tuple ⟨[]⟩), (H ++ [some (Blk.mk .fix [(.int .i64 a), (.int .i64 b), (.int .i64 c), (.int .i64 e), (.int .i64 f), (.int .i64 g), (.bool d)])])))
 (.claim (opA (Plain.env tblR noEnv) (.load (.const (.pointer (some ⟨(H).length, 0, none⟩))) none) [] (H ++ [some (Blk.mk .fix [(.int .i64 a), (.int .i64 b), (.int .i64 c), (.int .i64 e), (.int .i64 f), (.int .i64 g), (.bool d)])]) = some ((.int .i64 a), (H ++ [some (Blk.mk .fix [(.int .i64 a), (.int .i64 b), (.int .i64 c), (.int .i64 e), (.int .i64 f), (.int .i64 g), (.bool d)])])))
 (.br (decide (a ≤ l))
 (.ret (pk .ret (fr 27 [(2, (.bool false)), (3, (.int .i64 l)), (9, s), (10, (.int .i64 n)), (11, (.int .i64 i))])) (H ++ [some (Blk.mk .fix [(.int .i64 a), (.int .i64 b), (.int .i64 c), (.int .i64 e), (.int .i64 f), (.int .i64 g), (.bool d)])]))
 (.claim (opA (Plain.env tblR noEnv) (.load (.const (.pointer (some ⟨(H).length, 0, none⟩))) (some 7)) [] (H ++ [some (Blk.mk .fix [(.int .i64 a), (.int .i64 b), (.int .i64 c), (.int .i64 e), (.int .i64 f), (.int .i64 g), (.bool d)])]) = some ((.agg ⟨[(.int .i64 a), (.int .i64 b), (.int .i64 c), (.int .i64 e), (.int .i64 f), (.int .i64 g), (.bool d)]⟩), (H ++ [some (Blk.mk .fix [(.int .i64 a), (.int .i64 b), (.int .i64 c), (.int .i64 e), (.int .i64 f), (.int .i64 g), (.bool d)])])))
 (.req true (.br (!(rightB ⟨a, b, c, e, f, g, d⟩))
 (.ret (pk .ret (fr 27 [(2, (.bool false)), (3, (.int .i64 l)), (9, s), (10, (.int .i64 n)), (11, (.int .i64 i))])) (H ++ [some (Blk.mk .fix [(.int .i64 a), (.int .i64 b), (.int .i64 c), (.int .i64 e), (.int .i64 f), (.int .i64 g), (.bool d)])]))
 (.claim (opA (Plain.env tblR noEnv) (.load (.const (.pointer (some ⟨(H).length, 0, none⟩))) none) [] (H ++ [some (Blk.mk .fix [(.int .i64 a), (.int .i64 b), (.int .i64 c), (.int .i64 e), (.int .i64 f), (.int .i64 g), (.bool d)])]) = some ((.int .i64 a), (H ++ [some (Blk.mk .fix [(.int .i64 a), (.int .i64 b), (.int .i64 c), (.int .i64 e), (.int .i64 f), (.int .i64 g), (.bool d)])])))
 (.ret (pk .normal (fr 27 [(2, (.bool false)), (3, (.int .i64 a)), (9, s), (10, (.int .i64 n)), (11, (.int .i64 (IntKind.wrap .i64 (i + 1))))])) (H ++ [some (Blk.mk .fix [(.int .i64 a), (.int .i64 b), (.int .i64 c), (.int .i64 e), (.int .i64 f), (.int .i64 g), (.bool d)])])))))))))))
 (.ret (pk (.exit 0) (fr 27 [(2, (.bool false)), (3, (.int .i64 l)), (9, s), (10, (.int .i64 n)), (11, (.int .i64 i))])) H)) := by kernel_rfl
def il31a : IL := .seq (.reg [
     ⟨(some 2), none, .mov (.const (.bool false))⟩])
  (.seq (.seq (.reg [
      ⟨(some 6), none, .mov (.tmp 0)⟩,
      ⟨(some 7), none, .len (.tmp 6)⟩,
      ⟨(some 8), none, .bin .gtr (.tmp 7) (.const (.int .i64 64))⟩])
   (.ite (.tmp 8)
     (.seq (.reg [
        ⟨(some 2), none, .mov (.const (.bool false))⟩])
     (.ret))
     (.skip)))
  (.seq (.reg [
     ⟨(some 3), none, .mov (.const (.int .i64 0))⟩])
  (.seq (.seq (.reg [
      ⟨(some 9), none, .mov (.tmp 0)⟩,
      ⟨(some 10), none, .len (.tmp 9)⟩,
      ⟨(some 11), none, .mov (.const (.int .i64 0))⟩])
   (.block 0
     (.loop
       (.seq (.reg [
          ⟨(some 12), none, .bin .lss (.tmp 11) (.tmp 10)⟩])
       (.seq (.ite (.tmp 12)
          (.skip)
          (.exit 0))
       (.seq (.block 1
          (.seq (.reg [
             ⟨(some 13), none, .iadr 7 none (.tmp 9) (.tmp 11)⟩,
             ⟨(some 14), none, .load (.tmp 13) (some 7)⟩,
             ⟨(some 5), none, .alloc [(.int .i64 0), (.int .i64 0), (.int .i64 0), (.int .i64 0), (.int .i64 0), (.int .i64 0), (.bool false)]⟩,
             ⟨none, none, .store (.tmp 5) (.tmp 14) 7⟩])
          (.seq (.seq (.reg [
              ⟨(some 15), none, .fadr 0 (.tmp 5)⟩,
              ⟨(some 16), none, .load (.tmp 15) none⟩,
              ⟨(some 17), none, .mov (.tmp 3)⟩,
              ⟨(some 18), none, .bin .leq (.tmp 16) (.tmp 17)⟩,
              ⟨(some 19), none, .mov (.tmp 18)⟩,
              ⟨(some 20), (some (19, false)), .load (.tmp 5) (some 7)⟩,
              ⟨(some 21), (some (19, false)), .call 38 [(.tmp 20)]⟩,
              ⟨(some 22), (some (19, false)), .un .not (.tmp 21)⟩,
              ⟨(some 23), none, .pick (.tmp 19) (.const (.bool true)) (.tmp 22)⟩])
           (.ite (.tmp 23)
             (.seq (.reg [
                ⟨(some 2), none, .mov (.const (.bool false))⟩])
             (.ret))
             (.skip)))
          (.reg [
            ⟨(some 24), none, .fadr 0 (.tmp 5)⟩,
            ⟨(some 25), none, .load (.tmp 24) none⟩,
            ⟨(some 3), none, .mov (.tmp 25)⟩]))))
       (.reg [
         ⟨(some 26), none, .bin .add (.tmp 11) (.const (.int .i64 1))⟩,
         ⟨(some 11), none, .mov (.tmp 26)⟩])))))))
  (.seq (.reg [
     ⟨(some 2), none, .mov (.const (.bool true))⟩])
  (.ret)))))
def hn31a (s : Value) (n : Int) (ok : Bool) (H H1 : Heap) : Hj := (.use 7 (.int .i64 n) H (.sym .nil (.use 10 (.int .i64 n) H (.lp2 0 [2] ok (fr 27 [(2, (.bool false))]) H1 (fr 27 [(2, (.bool false))]) H1 .nil .nil))))
theorem tree31a (s : Value) (n : Int) (ok : Bool) (H H1 : Heap) : pieceT tblR noEnv 100 (resLv [.tmp 2]) il31a (hn31a s n ok H H1) (fr 27 [(0, s)]) H =
(.claim (opA (Plain.env tblR noEnv) (.len (.const s)) [] H = some ((.int .i64 n), H))
 (.br (decide (n > 64))
 (.ret (pk .ret (fr 27 [(2, (.bool false))])) H)
 (.claim (opA (Plain.env tblR noEnv) (.len (.const s)) [] H = some ((.int .i64 n), H))
 (.claim (Wp (Plain.env tblR noEnv) (inL [2]) (.block 0 (.loop body31_0)) (fr 27 [(2, (.bool false)), (3, (.int .i64 0)), (9, s), (10, (.int .i64 n)), (11, (.int .i64 0))]) H fun e s h' => if ok then e = .normal ∧ s = (fr 27 [(2, (.bool false))]) ∧ h' = H1 else e = .ret ∧ s = (fr 27 [(2, (.bool false))]) ∧ h' = H1)
 (.br ok
 (.ret (pk .ret (fr 27 [(2, (.bool true))])) H1)
 (.ret (pk .ret (fr 27 [(2, (.bool false))])) H1)))))) := by kernel_rfl

theorem right_sim (x : Ln) : Sim Try.prog 38 [.agg ⟨x.enc⟩] [] fun v _ => v = .bool (rightB x) := by
  obtain ⟨a, b, c, e, f, g, d⟩ := x
  refine fnU_sim mixed (T := []) (Γ := noEnv) (Plain.ok .nil noEnv_ok) (Plain.quiet noEnv_quiet) st38 (fuel := 100) (hn := hn38) ?_
  show (fnU [] noEnv 100 il38 hn38 [.agg ⟨[.int .i64 a, .int .i64 b, .int .i64 c, .int .i64 e, .int .i64 f, .int .i64 g, .bool d]⟩] []).holds _
  rw [tree38]
  have t : ∀ b : Bool, (bif b then true else true) = true := fun b => by cases b <;> rfl
  have z : ∀ n : Int, (bif (decide (n < 0)) then true else (decide (n > 1099511627776))) = badZ n := fun n => by simp [badZ]
  rw [z b, z c, z e, z f]
  simp only [t]
  refine ⟨rfl, fun h => ?_, fun h1 => ⟨rfl, fun h => ?_, fun h2 => ⟨rfl, fun h => ?_, fun h3 => ⟨rfl, fun h => ?_, fun h4 => ⟨rfl, ?_⟩⟩⟩⟩⟩
  all_goals show Value.bool _ = Value.bool _
  · simp [rightB, h]
  · simp [rightB, h]
  · simp [rightB, h]
  · simp [rightB, h]
  · simp [rightB, h1, h2, h3, h4]
theorem stWR : stF Try.prog qtR 19 = some ilWithin := by kernel_rfl
theorem okR : PlainOk Try.prog tblR := .cons (within_ok mixed stWR) <| .cons (fun args v e => by
  unfold sRight at e
  split at e
  · rename_i a
    obtain ⟨l⟩ := a
    cases hx : lnOf l with
    | none => rw [hx] at e; cases e
    | some x =>
      rw [hx] at e
      cases e
      rw [lnOf_eq hx]
      exact ⟨rfl, rfl, right_sim x⟩
  · cases e) <| .cons (fun args v e => by
  unfold sTrue at e
  split at e
  · cases e
    exact ⟨rfl, rfl, ClTapeRuns.sim.mono fun v h q => q.1⟩
  · cases e) .nil
abbrev fr31 (s : Value) (n l i : Int) : Fr := fr 27 [(2, (.bool false)), (3, (.int .i64 l)), (9, s), (10, (.int .i64 n)), (11, (.int .i64 i))]
structure In31 (h0 H : Heap) : Prop where
  old : H.take h0.length = h0
  len : h0.length ≤ H.length
def inv31 (h0 : Heap) (s : Value) (rows : List Ln) (m : Nat) (t : Fr) (H : Heap) : Prop :=
  ∃ (i : Nat) (l : Int), i + m = rows.length ∧ t = fr31 s rows.length l i ∧ In31 h0 H ∧ chk 0 rows = chk l (rows.drop i)
theorem loop31 {h0 : Heap} {s : Value} {rows : List Ln} (hs : RowsAt 7 h0 s (rows.map Ln.enc)) (hl : rows.length ≤ 1099511627776) :
    Wp (Plain.env tblR noEnv) (inL [2]) (.block 0 (.loop body31_0)) (fr31 s rows.length 0 0) h0 fun e t H => In31 h0 H ∧ t = fr 27 [(2, (.bool false))] ∧ ((chk 0 rows = true ∧ e = .normal) ∨ (chk 0 rows = false ∧ e = .ret)) := by
  refine Wp.block ((Wp.loop (K := fun e t H => In31 h0 H ∧ (∃ l i, t = fr31 s rows.length l i) ∧ ((chk 0 rows = true ∧ e = .exit 0) ∨ (chk 0 rows = false ∧ e = .ret))) (inv31 h0 s rows) ?_ rows.length _ _ ⟨0, 0, by omega, rfl, ⟨List.take_length, Nat.le_refl _⟩, rfl⟩).ends fun e t H ⟨q1, ⟨l, i, q2⟩, q3⟩ => ?_)
  rotate_right
  · subst q2
    refine ⟨_, norm_ag (inL [2]) _, ?_⟩
    have hf : norm (inL [2]) 0 (fr31 s rows.length l i) = fr 27 [(2, (.bool false))] := by kernel_rfl
    rcases q3 with ⟨c, rfl⟩ | ⟨c, rfl⟩
    · exact ⟨q1, hf, .inl ⟨c, rfl⟩⟩
    · exact ⟨q1, hf, .inr ⟨c, rfl⟩⟩
  rintro m t H ⟨i, l, hi, ht, hI, hc⟩
  subst ht
  cases m with
  | zero =>
    have hkl : i = rows.length := by omega
    subst hkl
    rw [List.drop_length] at hc
    refine Wp.piece 100 (hn31t s (.bool false) rows.length rows.length l 0 0 0 0 0 0 false H) ?_
    rw [tree31t]
    exact ⟨fun q => by simp at q, fun _ => outP_pk ⟨hI, ⟨_, _, rfl⟩, .inl ⟨hc, rfl⟩⟩⟩
  | succ m =>
    have hlt : i < rows.length := by omega
    have hx : rows[i]? = some rows[i] := List.getElem?_eq_getElem hlt
    have hdr : rows.drop i = rows[i] :: rows.drop (i + 1) := List.drop_eq_getElem_cons hlt
    generalize rows[i] = x at hx hdr
    rw [hdr] at hc
    obtain ⟨q, hq1, hq2, _⟩ := (hs.more fun B blk e => rd_take hI.old e).at_ (i := i) (row := x.enc) (by rw [List.getElem?_map, hx]; rfl)
    have wi : IntKind.wrap .i64 ((i : Int) + 1) = ((i + 1 : Nat) : Int) := by rw [wrap_id (by omega) (by omega)]; rfl
    have hI2 : ∀ X, In31 h0 (H ++ [X]) := fun X => ⟨take_app hI.old hI.len, by have := hI.len; simp; omega⟩
    refine Wp.piece 100 (hn31t s q rows.length i l x.a x.b x.c x.e x.f x.g x.d H) ?_
    rw [tree31t, wi]
    refine ⟨fun _ => ⟨hq1 _ _, hq2 _, st_ (rd_last rfl) (by intro q; cases q) rfl rfl (by simp) rfl (set_last rfl), ld1 (rd_last rfl) rfl, fun h1 => outP_pk ⟨hI2 _, ⟨_, _, rfl⟩, .inr ⟨?_, rfl⟩⟩, fun h1 => ⟨ldn (rd_last rfl) (by simp) rfl, rfl, fun h2 => outP_pk ⟨hI2 _, ⟨_, _, rfl⟩, .inr ⟨?_, rfl⟩⟩, fun h2 => ⟨ld1 (rd_last rfl) rfl, outP_pk ⟨m, by omega, i + 1, x.a, by omega, rfl, hI2 _, ?_⟩⟩⟩⟩, fun q => by simp at q; omega⟩
    · rw [hc]
      have : x.a ≤ l := by simpa using h1
      simp [chk, this]
    · rw [hc]
      have h3 : rightB x = false := by simpa using h2
      simp [chk, h3]
    · rw [hc]
      have h3 : rightB x = true := by simpa using h2
      have h4 : ¬ x.a ≤ l := by simpa using h1
      simp [chk, h3, h4]
theorem start31 (s : Value) : (([s] : List Value) ++ List.replicate (il31.ntmps - ([s] : List Value).length) undef) = fr 27 [(0, s)] := by kernel_rfl
theorem rightL_sim {h0 : Heap} {s : Value} {rows : List Ln} (hs : RowsAt 7 h0 s (rows.map Ln.enc)) (hl : rows.length ≤ 1099511627776) : Sim Try.prog 31 [s] h0 fun v h' => v = .bool (RightB rows) ∧ h' = h0 := by
  refine Sim.keep ?_ (fun v hv => by subst hv; rfl)
  refine wp_sim' mixed (Plain.ok okR noEnv_ok) (Plain.quiet noEnv_quiet) st31 ?_
  rw [start31, show il31.res = [.tmp 2] from rfl, show il31.body = il31a from rfl]
  have hlen : ∀ Γ, opA Γ (.len (.const s)) [] h0 = some ((.int .i64 rows.length), h0) := fun Γ => by have := hs.len (Γ := Γ) (H := h0); rw [List.length_map] at this; exact this
  obtain ⟨e, t, H1, ⟨k1, k2, k3⟩, w⟩ := (loop31 hs hl).exact
  subst k2
  have fin : ∀ (b : Bool) (h' : Heap), b = RightB rows → In31 h0 h' → outP (fun e s h' => (e = .normal ∨ e = .ret) ∧ ∃ v, resA s h' [.tmp 2] = some v ∧ v = .bool (RightB rows) ∧ h0.length ≤ h'.length ∧ h'.take h0.length = h0) (pk .ret (fr 27 [(2, (.bool b))])) h' := fun b h' hb hi => outP_pk ⟨.inr rfl, _, rfl, by subst hb; rfl, hi.len, hi.old⟩
  refine Wp.piece 100 (hn31a s rows.length (chk 0 rows) h0 H1) ?_
  rw [tree31a]
  refine ⟨hlen _, fun h1 => fin _ _ ?_ ⟨List.take_length, Nat.le_refl _⟩, fun h1 => ⟨hlen _, ?_, fun h2 => fin _ _ ?_ k1, fun h2 => fin _ _ ?_ k1⟩⟩
  · have : ¬ rows.length ≤ 64 := by simp at h1; omega
    simp [RightB, this]
  · refine w.mono fun e' s' h' ⟨a, b, c⟩ => ?_
    subst a b c
    rcases k3 with ⟨c1, rfl⟩ | ⟨c1, rfl⟩
    · rw [if_pos c1]; exact ⟨rfl, rfl, rfl⟩
    · rw [if_neg (by rw [c1]; decide)]; exact ⟨rfl, rfl, rfl⟩
  · have : rows.length ≤ 64 := by simp at h1; omega
    simp [RightB, this, h2]
  · simp [RightB, h2]
/-! ### What is right, what isn't -/
theorem chk_bad : ∀ (rows : List Ln) (i : Nat) (x : Ln) (l : Int), rows[i]? = some x → rightB x = false → chk l rows = false
  | [], i, x, l, h, _ => by simp at h
  | y :: r, 0, x, l, h, hb => by
    simp at h; subst h
    simp [chk, hb]
  | y :: r, i + 1, x, l, h, hb => by
    simp only [chk]
    split
    · rfl
    · split
      · exact chk_bad r i x _ (by simpa using h) hb
      · rfl
theorem chk_low : ∀ (rows : List Ln) (i : Nat) (x : Ln) (l : Int), rows[i]? = some x → 0 ≤ l → x.a ≤ 0 → chk l rows = false
  | [], i, x, l, h, _, _ => by simp at h
  | y :: r, 0, x, l, h, hl, hx => by
    simp at h; subst h
    have : y.a ≤ l := by omega
    simp [chk, this]
  | y :: r, i + 1, x, l, h, hl, hx => by
    simp only [chk]
    split
    · rfl
    · split
      · exact chk_low r i x _ (by simpa using h) (by omega) hx
      · rfl
theorem chk_two : ∀ (rows : List Ln) (i : Nat) (x y : Ln) (l : Int), rows[i]? = some y → rows[i + 1]? = some x → x.a ≤ y.a → chk l rows = false
  | [], i, x, y, l, h, _, _ => by simp at h
  | [z], i, x, y, l, h, h2, _ => by simp at h2
  | z :: u :: r, 0, x, y, l, h, h2, hx => by
    simp at h h2; subst h h2
    simp [chk, hx]
  | z :: u :: r, i + 1, x, y, l, h, h2, hx => by
    rw [chk]
    split
    · rfl
    · split
      · exact chk_two (u :: r) i x y _ (by simpa using h) (by simpa using h2) hx
      · rfl
theorem chk_lines (T : Tp) : ∀ (n k : Nat), chk (idAt T k) ((List.range' k n).map (lineAt T)) = true
  | 0, k => rfl
  | n + 1, k => by
    rw [List.range'_succ, List.map_cons, chk]
    have a := wn_lo (x := pickZ T.l k) (lo := 0) (hi := 3) (by omega)
    have h1 : ¬ (lineAt T k).a ≤ idAt T k := by
      show ¬ idAt T (k + 1) ≤ idAt T k
      simp only [idAt]; omega
    have g1 : ∀ x, badZ (wn x 0 1099511627776) = false := fun x => by
      have a := wn_lo (x := x) (lo := 0) (hi := 1099511627776) (by omega)
      have b := wn_hi (x := x) (lo := 0) (hi := 1099511627776) (by omega)
      simp [badZ]; omega
    have g2 : badZ (wn (pickZ T.q k) 0 9000) = false := by
      have a := wn_lo (x := pickZ T.q k) (lo := 0) (hi := 9000) (by omega)
      have b := wn_hi (x := pickZ T.q k) (lo := 0) (hi := 9000) (by omega)
      simp [badZ]; omega
    have g3 : badZ (wn (pickZ T.s k) 0 900) = false := by
      have a := wn_lo (x := pickZ T.s k) (lo := 0) (hi := 900) (by omega)
      have b := wn_hi (x := pickZ T.s k) (lo := 0) (hi := 900) (by omega)
      simp [badZ]; omega
    have c := wn_lo (x := pickZ T.l k) (lo := 0) (hi := 12) (by omega)
    have d := wn_hi (x := pickZ T.l k) (lo := 0) (hi := 12) (by omega)
    have h2 : rightB (lineAt T k) = true := by
      simp only [rightB, lineAt, g1, g2, g3, Bool.not_false, Bool.true_and, ge_iff_le, decide_eq_true c]
      exact decide_eq_true d
    rw [if_neg h1, if_pos h2]
    exact chk_lines T n (k + 1)
theorem right_lines (T : Tp) : RightB (lines T) = true := by
  have h1 : (lines T).length ≤ 64 := by rw [lines_len]; omega
  have h2 : chk 0 (lines T) = true := by
    have := chk_lines T (min T.p.length 12) 0
    rw [← List.range_eq_range'] at this
    exact this
  simp [RightB, h1, h2]
end Go.Proofs.Ytjnppjipoibbeaa.Tape
