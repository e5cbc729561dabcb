/-
  tape: plus, cash, the sum of lines; what a list picks.
-/
import Derived.Test.YtjnppjipoibbeaaProg
import Derived.Test.YtjnppjipoibbeaaAm25
import Derived.Test.YtjnppjipoibbeaaLb0
import Derived.Test.YtjnppjipoibbeaaLb1
import Derived.Test.YtjnppjipoibbeaaLb2
import Derived.KernelRfl
namespace Go.Proofs.Ytjnppjipoibbeaa.Tape
open Go.Am
set_option linter.all false
set_option maxRecDepth 100000
abbrev qt : List Nat := [11,16,17,18,19,20,30,32,34,39]
theorem mixed : Try.prog.follows .mixedOrders = true := by kernel_rfl
/-! ### What is said of it -/
structure Ln where
  a : Int
  b : Int
  c : Int
  e : Int
  f : Int
  g : Int
  d : Bool
def Ln.enc (l : Ln) : List Value := [.int .i64 l.a, .int .i64 l.b, .int .i64 l.c, .int .i64 l.e, .int .i64 l.f, .int .i64 l.g, .bool l.d]
structure Tot where
  p : Int
  q : Int
  r : Int
  s : Int
  t : Int
def pl (a b : Int) : Int := IntKind.wrap .i64 (a + b)
def Tot.c (x : Tot) : List Value := [.int .i64 x.p, .int .i64 x.q, .int .i64 x.r, .int .i64 x.s, .int .i64 x.t]
def Tot.v (x : Tot) : Value := .agg ⟨x.c⟩
def plus (x y : Tot) : Tot := ⟨pl x.p y.p, pl x.q y.q, pl x.r y.r, pl x.s y.s, pl x.t y.t⟩
def one (l : Ln) : Tot := ⟨l.b, l.c, l.e, l.f, if l.d then 1 else 0⟩
def zero : Tot := ⟨0, 0, 0, 0, 0⟩
def tot (l : List Ln) : Tot := l.foldl (fun t x => plus t (one x)) zero
def cash (x : Tot) : Int := pl (pl (pl x.p x.q) x.r) x.s
theorem tot_take {l : List Ln} {k : Nat} {x : Ln} (h : l[k]? = some x) : tot (l.take (k + 1)) = plus (tot (l.take k)) (one x) := by
  have : l.take (k + 1) = l.take k ++ [x] := by
    rw [List.take_succ, h]; rfl
  rw [this, tot, List.foldl_append]
  rfl
def sPlus : List Value → Option (Bool × Value)
  | [.agg a, .agg b] => match intsOf a.toList, intsOf b.toList with
    | some [a0, a1, a2, a3, a4], some [b0, b1, b2, b3, b4] => some (true, .agg ⟨[.int .i64 (pl a0 b0), .int .i64 (pl a1 b1), .int .i64 (pl a2 b2), .int .i64 (pl a3 b3), .int .i64 (pl a4 b4)]⟩)
    | _, _ => none
  | _ => none
def sCash : List Value → Option (Bool × Value)
  | [.agg a] => match intsOf a.toList with
    | some [a0, a1, a2, a3, a4] => some (true, .int .i64 (pl (pl (pl a0 a1) a2) a3))
    | _ => none
  | _ => none
def tblW : Plain := [(19, sWithin), (34, sPlus), (32, sCash)]
/-- (cascade/tape.Total).Plus -/
def il34 : FnIL := ⟨31, [.cell 4 (some 5)],
  .seq (.reg [
     ⟨(some 2), none, .box (.tmp 0)⟩,
     ⟨(some 3), none, .box (.tmp 1)⟩,
     ⟨(some 4), none, .alloc [(.int .i64 0), (.int .i64 0), (.int .i64 0), (.int .i64 0), (.int .i64 0)]⟩])
  (.seq (.reg [
     ⟨(some 5), none, .fadr 0 (.tmp 2)⟩,
     ⟨(some 6), none, .load (.tmp 5) none⟩,
     ⟨(some 7), none, .fadr 0 (.tmp 3)⟩,
     ⟨(some 8), none, .load (.tmp 7) none⟩,
     ⟨(some 9), none, .bin .add (.tmp 6) (.tmp 8)⟩,
     ⟨(some 10), none, .fadr 1 (.tmp 2)⟩,
     ⟨(some 11), none, .load (.tmp 10) none⟩,
     ⟨(some 12), none, .fadr 1 (.tmp 3)⟩,
     ⟨(some 13), none, .load (.tmp 12) none⟩,
     ⟨(some 14), none, .bin .add (.tmp 11) (.tmp 13)⟩,
     ⟨(some 15), none, .fadr 2 (.tmp 2)⟩,
     ⟨(some 16), none, .load (.tmp 15) none⟩,
     ⟨(some 17), none, .fadr 2 (.tmp 3)⟩,
     ⟨(some 18), none, .load (.tmp 17) none⟩,
     ⟨(some 19), none, .bin .add (.tmp 16) (.tmp 18)⟩,
     ⟨(some 20), none, .fadr 3 (.tmp 2)⟩,
     ⟨(some 21), none, .load (.tmp 20) none⟩,
     ⟨(some 22), none, .fadr 3 (.tmp 3)⟩,
     ⟨(some 23), none, .load (.tmp 22) none⟩,
     ⟨(some 24), none, .bin .add (.tmp 21) (.tmp 23)⟩,
     ⟨(some 25), none, .fadr 4 (.tmp 2)⟩,
     ⟨(some 26), none, .load (.tmp 25) none⟩,
     ⟨(some 27), none, .fadr 4 (.tmp 3)⟩,
     ⟨(some 28), none, .load (.tmp 27) none⟩,
     ⟨(some 29), none, .bin .add (.tmp 26) (.tmp 28)⟩,
     ⟨(some 30), none, .build [(.int .i64 0), (.int .i64 0), (.int .i64 0), (.int .i64 0), (.int .i64 0)] [(0, 1, (.tmp 9)), (1, 1, (.tmp 14)), (2, 1, (.tmp 19)), (3, 1, (.tmp 24)), (4, 1, (.tmp 29))]⟩,
     ⟨none, none, .store (.tmp 4) (.tmp 30) 5⟩])
  (.ret))⟩
theorem st34 : stF Try.prog qt 34 = some il34 := by kernel_rfl
def hn34 : Hj := .nil
theorem tree34 (a0 a1 a2 a3 a4 : Int) (b0 b1 b2 b3 b4 : Int) : fnU [] noEnv 100 il34 hn34 [(.agg ⟨[.int .i64 a0, .int .i64 a1, .int .i64 a2, .int .i64 a3, .int .i64 a4]⟩), (.agg ⟨[.int .i64 b0, .int .i64 b1, .int .i64 b2, .int .i64 b3, .int .i64 b4]⟩)] [] =
(.ret (.agg ⟨[(.int .i64 (IntKind.wrap .i64 (a0 + b0))), (.int .i64 (IntKind.wrap .i64 (a1 + b1))), (.int .i64 (IntKind.wrap .i64 (a2 + b2))), (.int .i64 (IntKind.wrap .i64 (a3 + b3))), (.int .i64 (IntKind.wrap .i64 (a4 + b4)))]⟩) []) := by kernel_rfl
/-- (cascade/tape.Total).Cash -/
def il32 : FnIL := ⟨14, [.tmp 2],
  .seq (.reg [
     ⟨(some 1), none, .box (.tmp 0)⟩,
     ⟨(some 2), none, .mov (.const (.int .i64 0))⟩])
  (.seq (.reg [
     ⟨(some 3), none, .fadr 0 (.tmp 1)⟩,
     ⟨(some 4), none, .load (.tmp 3) none⟩,
     ⟨(some 5), none, .fadr 1 (.tmp 1)⟩,
     ⟨(some 6), none, .load (.tmp 5) none⟩,
     ⟨(some 7), none, .bin .add (.tmp 4) (.tmp 6)⟩,
     ⟨(some 8), none, .fadr 2 (.tmp 1)⟩,
     ⟨(some 9), none, .load (.tmp 8) none⟩,
     ⟨(some 10), none, .bin .add (.tmp 7) (.tmp 9)⟩,
     ⟨(some 11), none, .fadr 3 (.tmp 1)⟩,
     ⟨(some 12), none, .load (.tmp 11) none⟩,
     ⟨(some 13), none, .bin .add (.tmp 10) (.tmp 12)⟩,
     ⟨(some 2), none, .mov (.tmp 13)⟩])
  (.ret))⟩
theorem st32 : stF Try.prog qt 32 = some il32 := by kernel_rfl
def hn32 : Hj := .nil
theorem tree32 (a0 a1 a2 a3 a4 : Int) : fnU [] noEnv 100 il32 hn32 [(.agg ⟨[.int .i64 a0, .int .i64 a1, .int .i64 a2, .int .i64 a3, .int .i64 a4]⟩)] [] =
(.ret (.int .i64 (IntKind.wrap .i64 ((IntKind.wrap .i64 ((IntKind.wrap .i64 (a0 + a1)) + a2)) + a3))) []) := by kernel_rfl
/-- cascade/tape.Sum -/
def il30 : FnIL := ⟨30, [.cell 2 (some 5)],
  .seq (.reg [
     ⟨(some 2), none, .alloc [(.int .i64 0), (.int .i64 0), (.int .i64 0), (.int .i64 0), (.int .i64 0)]⟩])
  (.seq (.reg [
     ⟨(some 3), none, .alloc [(.int .i64 0), (.int .i64 0), (.int .i64 0), (.int .i64 0), (.int .i64 0)]⟩])
  (.seq (.seq (.reg [
      ⟨(some 7), none, .mov (.tmp 0)⟩,
      ⟨(some 8), none, .len (.tmp 7)⟩,
      ⟨(some 9), none, .mov (.const (.int .i64 0))⟩])
   (.block 0
     (.loop
       (.seq (.reg [
          ⟨(some 10), none, .bin .lss (.tmp 9) (.tmp 8)⟩])
       (.seq (.ite (.tmp 10)
          (.skip)
          (.exit 0))
       (.seq (.block 1
          (.seq (.reg [
             ⟨(some 11), none, .iadr 7 none (.tmp 7) (.tmp 9)⟩,
             ⟨(some 12), none, .load (.tmp 11) (some 7)⟩,
             ⟨(some 5), none, .alloc [(.int .i64 0), (.int .i64 0), (.int .i64 0), (.int .i64 0), (.int .i64 0), (.int .i64 0), (.bool false)]⟩,
             ⟨none, none, .store (.tmp 5) (.tmp 12) 7⟩])
          (.seq (.reg [
             ⟨(some 13), none, .fadr 1 (.tmp 5)⟩,
             ⟨(some 14), none, .load (.tmp 13) none⟩,
             ⟨(some 15), none, .fadr 2 (.tmp 5)⟩,
             ⟨(some 16), none, .load (.tmp 15) none⟩,
             ⟨(some 17), none, .fadr 3 (.tmp 5)⟩,
             ⟨(some 18), none, .load (.tmp 17) none⟩,
             ⟨(some 19), none, .fadr 4 (.tmp 5)⟩,
             ⟨(some 20), none, .load (.tmp 19) none⟩,
             ⟨(some 21), none, .build [(.int .i64 0), (.int .i64 0), (.int .i64 0), (.int .i64 0), (.int .i64 0)] [(0, 1, (.tmp 14)), (1, 1, (.tmp 16)), (2, 1, (.tmp 18)), (3, 1, (.tmp 20))]⟩,
             ⟨(some 6), none, .alloc [(.int .i64 0), (.int .i64 0), (.int .i64 0), (.int .i64 0), (.int .i64 0)]⟩,
             ⟨none, none, .store (.tmp 6) (.tmp 21) 5⟩])
          (.seq (.seq (.reg [
              ⟨(some 22), none, .fadr 6 (.tmp 5)⟩,
              ⟨(some 23), none, .load (.tmp 22) none⟩])
           (.ite (.tmp 23)
             (.reg [
               ⟨(some 24), none, .fadr 4 (.tmp 6)⟩,
               ⟨none, none, .store (.tmp 24) (.const (.int .i64 1)) 1⟩])
             (.skip)))
          (.reg [
            ⟨(some 25), none, .load (.tmp 3) (some 5)⟩,
            ⟨(some 26), none, .load (.tmp 6) (some 5)⟩,
            ⟨(some 27), none, .call 34 [(.tmp 25), (.tmp 26)]⟩,
            ⟨none, none, .store (.tmp 3) (.tmp 27) 5⟩])))))
       (.reg [
         ⟨(some 28), none, .bin .add (.tmp 9) (.const (.int .i64 1))⟩,
         ⟨(some 9), none, .mov (.tmp 28)⟩])))))))
  (.seq (.reg [
     ⟨(some 29), none, .load (.tmp 3) (some 5)⟩,
     ⟨none, none, .store (.tmp 2) (.tmp 29) 5⟩])
  (.ret))))⟩
theorem st30 : stF Try.prog qt 30 = some il30 := by kernel_rfl
/- live ahead of a turn: [2, 3, 7, 8, 9] -/
def body30_0 : IL := .seq (.reg [
     ⟨(some 10), none, .bin .lss (.tmp 9) (.tmp 8)⟩])
  (.seq (.ite (.tmp 10)
     (.skip)
     (.exit 0))
  (.seq (.block 1
     (.seq (.reg [
        ⟨(some 11), none, .iadr 7 none (.tmp 7) (.tmp 9)⟩,
        ⟨(some 12), none, .load (.tmp 11) (some 7)⟩,
        ⟨(some 5), none, .alloc [(.int .i64 0), (.int .i64 0), (.int .i64 0), (.int .i64 0), (.int .i64 0), (.int .i64 0), (.bool false)]⟩,
        ⟨none, none, .store (.tmp 5) (.tmp 12) 7⟩])
     (.seq (.reg [
        ⟨(some 13), none, .fadr 1 (.tmp 5)⟩,
        ⟨(some 14), none, .load (.tmp 13) none⟩,
        ⟨(some 15), none, .fadr 2 (.tmp 5)⟩,
        ⟨(some 16), none, .load (.tmp 15) none⟩,
        ⟨(some 17), none, .fadr 3 (.tmp 5)⟩,
        ⟨(some 18), none, .load (.tmp 17) none⟩,
        ⟨(some 19), none, .fadr 4 (.tmp 5)⟩,
        ⟨(some 20), none, .load (.tmp 19) none⟩,
        ⟨(some 21), none, .build [(.int .i64 0), (.int .i64 0), (.int .i64 0), (.int .i64 0), (.int .i64 0)] [(0, 1, (.tmp 14)), (1, 1, (.tmp 16)), (2, 1, (.tmp 18)), (3, 1, (.tmp 20))]⟩,
        ⟨(some 6), none, .alloc [(.int .i64 0), (.int .i64 0), (.int .i64 0), (.int .i64 0), (.int .i64 0)]⟩,
        ⟨none, none, .store (.tmp 6) (.tmp 21) 5⟩])
     (.seq (.seq (.reg [
         ⟨(some 22), none, .fadr 6 (.tmp 5)⟩,
         ⟨(some 23), none, .load (.tmp 22) none⟩])
      (.ite (.tmp 23)
        (.reg [
          ⟨(some 24), none, .fadr 4 (.tmp 6)⟩,
          ⟨none, none, .store (.tmp 24) (.const (.int .i64 1)) 1⟩])
        (.skip)))
     (.reg [
       ⟨(some 25), none, .load (.tmp 3) (some 5)⟩,
       ⟨(some 26), none, .load (.tmp 6) (some 5)⟩,
       ⟨(some 27), none, .call 34 [(.tmp 25), (.tmp 26)]⟩,
       ⟨none, none, .store (.tmp 3) (.tmp 27) 5⟩])))))
  (.reg [
    ⟨(some 28), none, .bin .add (.tmp 9) (.const (.int .i64 1))⟩,
    ⟨(some 9), none, .mov (.tmp 28)⟩])))
def hb30_0 (s q : Value) (n i : Int) (b2 b3 : Nat) (a0 a1 a2 a3 a4 : Int) (x0 x1 x2 x3 x4 x5 : Int) (d : Bool) (H : Heap) : Hj := (.sym (.use 11 q H (.use 12 (.agg ⟨[(.int .i64 x0), (.int .i64 x1), (.int .i64 x2), (.int .i64 x3), (.int .i64 x4), (.int .i64 x5), (.bool d)]⟩) H (.use 9999 (.tuple ⟨[]⟩) (H ++ [some (Blk.mk .fix [(.int .i64 x0), (.int .i64 x1), (.int .i64 x2), (.int .i64 x3), (.int .i64 x4), (.int .i64 x5), (.bool d)])]) (.use 14 (.int .i64 x1) (H ++ [some (Blk.mk .fix [(.int .i64 x0), (.int .i64 x1), (.int .i64 x2), (.int .i64 x3), (.int .i64 x4), (.int .i64 x5), (.bool d)])]) (.use 16 (.int .i64 x2) (H ++ [some (Blk.mk .fix [(.int .i64 x0), (.int .i64 x1), (.int .i64 x2), (.int .i64 x3), (.int .i64 x4), (.int .i64 x5), (.bool d)])]) (.use 18 (.int .i64 x3) (H ++ [some (Blk.mk .fix [(.int .i64 x0), (.int .i64 x1), (.int .i64 x2), (.int .i64 x3), (.int .i64 x4), (.int .i64 x5), (.bool d)])]) (.use 20 (.int .i64 x4) (H ++ [some (Blk.mk .fix [(.int .i64 x0), (.int .i64 x1), (.int .i64 x2), (.int .i64 x3), (.int .i64 x4), (.int .i64 x5), (.bool d)])]) (.use 9999 (.tuple ⟨[]⟩) ((H ++ [some (Blk.mk .fix [(.int .i64 x0), (.int .i64 x1), (.int .i64 x2), (.int .i64 x3), (.int .i64 x4), (.int .i64 x5), (.bool d)])]) ++ [some (Blk.mk .fix [(.int .i64 x1), (.int .i64 x2), (.int .i64 x3), (.int .i64 x4), (.int .i64 0)])]) (.use 23 (.bool d) ((H ++ [some (Blk.mk .fix [(.int .i64 x0), (.int .i64 x1), (.int .i64 x2), (.int .i64 x3), (.int .i64 x4), (.int .i64 x5), (.bool d)])]) ++ [some (Blk.mk .fix [(.int .i64 x1), (.int .i64 x2), (.int .i64 x3), (.int .i64 x4), (.int .i64 0)])]) (.sym (.use 9999 (.tuple ⟨[]⟩) ((H ++ [some (Blk.mk .fix [(.int .i64 x0), (.int .i64 x1), (.int .i64 x2), (.int .i64 x3), (.int .i64 x4), (.int .i64 x5), (.bool d)])]) ++ [some (Blk.mk .fix [(.int .i64 x1), (.int .i64 x2), (.int .i64 x3), (.int .i64 x4), (.int .i64 1)])]) (.use 25 (.agg ⟨[(.int .i64 a0), (.int .i64 a1), (.int .i64 a2), (.int .i64 a3), (.int .i64 a4)]⟩) ((H ++ [some (Blk.mk .fix [(.int .i64 x0), (.int .i64 x1), (.int .i64 x2), (.int .i64 x3), (.int .i64 x4), (.int .i64 x5), (.bool d)])]) ++ [some (Blk.mk .fix [(.int .i64 x1), (.int .i64 x2), (.int .i64 x3), (.int .i64 x4), (.int .i64 1)])]) (.use 26 (.agg ⟨[(.int .i64 x1), (.int .i64 x2), (.int .i64 x3), (.int .i64 x4), (.int .i64 1)]⟩) ((H ++ [some (Blk.mk .fix [(.int .i64 x0), (.int .i64 x1), (.int .i64 x2), (.int .i64 x3), (.int .i64 x4), (.int .i64 x5), (.bool d)])]) ++ [some (Blk.mk .fix [(.int .i64 x1), (.int .i64 x2), (.int .i64 x3), (.int .i64 x4), (.int .i64 1)])]) (.use 9999 (.tuple ⟨[]⟩) (((H.set b3 (some (Blk.mk .fix [(.int .i64 (pl a0 x1)), (.int .i64 (pl a1 x2)), (.int .i64 (pl a2 x3)), (.int .i64 (pl a3 x4)), (.int .i64 (pl a4 1))]))) ++ [some (Blk.mk .fix [(.int .i64 x0), (.int .i64 x1), (.int .i64 x2), (.int .i64 x3), (.int .i64 x4), (.int .i64 x5), (.bool d)])]) ++ [some (Blk.mk .fix [(.int .i64 x1), (.int .i64 x2), (.int .i64 x3), (.int .i64 x4), (.int .i64 1)])]) .nil)))) (.use 25 (.agg ⟨[(.int .i64 a0), (.int .i64 a1), (.int .i64 a2), (.int .i64 a3), (.int .i64 a4)]⟩) ((H ++ [some (Blk.mk .fix [(.int .i64 x0), (.int .i64 x1), (.int .i64 x2), (.int .i64 x3), (.int .i64 x4), (.int .i64 x5), (.bool d)])]) ++ [some (Blk.mk .fix [(.int .i64 x1), (.int .i64 x2), (.int .i64 x3), (.int .i64 x4), (.int .i64 0)])]) (.use 26 (.agg ⟨[(.int .i64 x1), (.int .i64 x2), (.int .i64 x3), (.int .i64 x4), (.int .i64 0)]⟩) ((H ++ [some (Blk.mk .fix [(.int .i64 x0), (.int .i64 x1), (.int .i64 x2), (.int .i64 x3), (.int .i64 x4), (.int .i64 x5), (.bool d)])]) ++ [some (Blk.mk .fix [(.int .i64 x1), (.int .i64 x2), (.int .i64 x3), (.int .i64 x4), (.int .i64 0)])]) (.use 9999 (.tuple ⟨[]⟩) (((H.set b3 (some (Blk.mk .fix [(.int .i64 (pl a0 x1)), (.int .i64 (pl a1 x2)), (.int .i64 (pl a2 x3)), (.int .i64 (pl a3 x4)), (.int .i64 (pl a4 0))]))) ++ [some (Blk.mk .fix [(.int .i64 x0), (.int .i64 x1), (.int .i64 x2), (.int .i64 x3), (.int .i64 x4), (.int .i64 x5), (.bool d)])]) ++ [some (Blk.mk .fix [(.int .i64 x1), (.int .i64 x2), (.int .i64 x3), (.int .i64 x4), (.int .i64 0)])]) .nil))))))))))))) .nil)
theorem turn30_0 (s q : Value) (n i : Int) (b2 b3 : Nat) (a0 a1 a2 a3 a4 : Int) (x0 x1 x2 x3 x4 x5 : Int) (d : Bool) (H : Heap) : pieceT tblW noEnv 100 (fun i => exL i body30_0 || inL [2, 3] i) body30_0 (hb30_0 s q n i b2 b3 a0 a1 a2 a3 a4 x0 x1 x2 x3 x4 x5 d H) (fr 30 [(2, (.pointer (some ⟨b2, 0, none⟩))), (3, (.pointer (some ⟨b3, 0, none⟩))), (7, s), (8, (.int .i64 n)), (9, (.int .i64 i))]) H =
(.br (decide (i < n))
 (.claim (opA (Plain.env tblW noEnv) (.iadr 7 none (.const s) (.const (.int .i64 i))) [] H = some (q, H))
 (.claim (opA (Plain.env tblW noEnv) (.load (.const q) (some 7)) [] H = some ((.agg ⟨[(.int .i64 x0), (.int .i64 x1), (.int .i64 x2), (.int .i64 x3), (.int .i64 x4), (.int .i64 x5), (.bool d)]⟩), H))
 (.claim (opA (Plain.env tblW noEnv) (.store (.const (.pointer (some ⟨(H).length, 0, none⟩))) (.const (.agg ⟨[(.int .i64 x0), (.int .i64 x1), (.int .i64 x2), (.int .i64 x3), (.int .i64 x4), (.int .i64 x5), (.bool d)]⟩)) 7) [] (H ++ [some (Blk.mk .fix [(.int .i64 0), (.int .i64 0), (.int .i64 0), (.int .i64 0), (.int .i64 0), (.int .i64 0), (.bool false)])]) = some ((.tuple ⟨[]⟩), (H ++ [some (Blk.mk .fix [(.int .i64 x0), (.int .i64 x1), (.int .i64 x2), (.int .i64 x3), (.int .i64 x4), (.int .i64 x5), (.bool d)])])))
 (.claim (opA (Plain.env tblW noEnv) (.load (.const (.pointer (some ⟨(H).length, 1, none⟩))) none) [] (H ++ [some (Blk.mk .fix [(.int .i64 x0), (.int .i64 x1), (.int .i64 x2), (.int .i64 x3), (.int .i64 x4), (.int .i64 x5), (.bool d)])]) = some ((.int .i64 x1), (H ++ [some (Blk.mk .fix [(.int .i64 x0), (.int .i64 x1), (.int .i64 x2), (.int .i64 x3), (.int .i64 x4), (.int .i64 x5), (.bool d)])])))
 (.claim (opA (Plain.env tblW noEnv) (.load (.const (.pointer (some ⟨(H).length, 2, none⟩))) none) [] (H ++ [some (Blk.mk .fix [(.int .i64 x0), (.int .i64 x1), (.int .i64 x2), (.int .i64 x3), (.int .i64 x4), (.int .i64 x5), (.bool d)])]) = some ((.int .i64 x2), (H ++ [some (Blk.mk .fix [(.int .i64 x0), (.int .i64 x1), (.int .i64 x2), (.int .i64 x3), (.int .i64 x4), (.int .i64 x5), (.bool d)])])))
 (.claim (opA (Plain.env tblW noEnv) (.load (.const (.pointer (some ⟨(H).length, 3, none⟩))) none) [] (H ++ [some (Blk.mk .fix [(.int .i64 x0), (.int .i64 x1), (.int .i64 x2), (.int .i64 x3), (.int .i64 x4), (.int .i64 x5), (.bool d)])]) = some ((.int .i64 x3), (H ++ [some (Blk.mk .fix [(.int .i64 x0), (.int .i64 x1), (.int .i64 x2), (.int .i64 x3), (.int .i64 x4), (.int .i64 x5), (.bool d)])])))
 (.claim (opA (Plain.env tblW noEnv) (.load (.const (.pointer (some ⟨(H).length, 4, none⟩))) none) [] (H ++ [some (Blk.mk .fix [(.int .i64 x0), (.int .i64 x1), (.int .i64 x2), (.int .i64 x3), (.int .i64 x4), (.int .i64 x5), (.bool d)])]) = some ((.int .i64 x4), (H ++ [some (Blk.mk .fix [(.int .i64 x0), (.int .i64 x1), (.int .i64 x2), (.int .i64 x3), (.int .i64 x4), (.int .i64 x5), (.bool d)])])))
 (.claim (opA (Plain.env tblW noEnv) (.store (.const (.pointer (some ⟨((H ++ [some (Blk.mk .fix [(.int .i64 x0), (.int .i64 x1), (.int .i64 x2), (.int .i64 x3), (.int .i64 x4), (.int .i64 x5), (.bool d)])])).length, 0, none⟩))) (.const (.agg ⟨[(.int .i64 x1), (.int .i64 x2), (.int .i64 x3), (.int .i64 x4), (.int .i64 0)]⟩)) 5) [] ((H ++ [some (Blk.mk .fix [(.int .i64 x0), (.int .i64 x1), (.int .i64 x2), (.int .i64 x3), (.int .i64 x4), (.int .i64 x5), (.bool d)])]) ++ [some (Blk.mk .fix [(.int .i64 0), (.int .i64 0), (.int .i64 0), (.int .i64 0), (.int .i64 0)])]) = some ((.tuple ⟨[]⟩), ((H ++ [some (Blk.mk .fix [(.int .i64 x0), (.int .i64 x1), (.int .i64 x2), (.int .i64 x3), (.int .i64 x4), (.int .i64 x5), (.bool d)])]) ++ [some (Blk.mk .fix [(.int .i64 x1), (.int .i64 x2), (.int .i64 x3), (.int .i64 x4), (.int .i64 0)])])))
 (.claim (opA (Plain.env tblW noEnv) (.load (.const (.pointer (some ⟨(H).length, 6, none⟩))) none) [] ((H ++ [some (Blk.mk .fix [(.int .i64 x0), (.int .i64 x1), (.int .i64 x2), (.int .i64 x3), (.int .i64 x4), (.int .i64 x5), (.bool d)])]) ++ [some (Blk.mk .fix [(.int .i64 x1), (.int .i64 x2), (.int .i64 x3), (.int .i64 x4), (.int .i64 0)])]) = some ((.bool d), ((H ++ [some (Blk.mk .fix [(.int .i64 x0), (.int .i64 x1), (.int .i64 x2), (.int .i64 x3), (.int .i64 x4), (.int .i64 x5), (.bool d)])]) ++ [some (Blk.mk .fix [(.int .i64 x1), (.int .i64 x2), (.int .i64 x3), (.int .i64 x4), (.int .i64 0)])])))
 (.br d
 (.claim (opA (Plain.env tblW noEnv) (.store (.const (.pointer (some ⟨((H ++ [some (Blk.mk .fix [(.int .i64 x0), (.int .i64 x1), (.int .i64 x2), (.int .i64 x3), (.int .i64 x4), (.int .i64 x5), (.bool d)])])).length, 4, none⟩))) (.const (.int .i64 1)) 1) [] ((H ++ [some (Blk.mk .fix [(.int .i64 x0), (.int .i64 x1), (.int .i64 x2), (.int .i64 x3), (.int .i64 x4), (.int .i64 x5), (.bool d)])]) ++ [some (Blk.mk .fix [(.int .i64 x1), (.int .i64 x2), (.int .i64 x3), (.int .i64 x4), (.int .i64 0)])]) = some ((.tuple ⟨[]⟩), ((H ++ [some (Blk.mk .fix [(.int .i64 x0), (.int .i64 x1), (.int .i64 x2), (.int .i64 x3), (.int .i64 x4), (.int .i64 x5), (.bool d)])]) ++ [some (Blk.mk .fix [(.int .i64 x1), (.int .i64 x2), (.int .i64 x3), (.int .i64 x4), (.int .i64 1)])])))
 (.claim (opA (Plain.env tblW noEnv) (.load (.const (.pointer (some ⟨b3, 0, none⟩))) (some 5)) [] ((H ++ [some (Blk.mk .fix [(.int .i64 x0), (.int .i64 x1), (.int .i64 x2), (.int .i64 x3), (.int .i64 x4), (.int .i64 x5), (.bool d)])]) ++ [some (Blk.mk .fix [(.int .i64 x1), (.int .i64 x2), (.int .i64 x3), (.int .i64 x4), (.int .i64 1)])]) = some ((.agg ⟨[(.int .i64 a0), (.int .i64 a1), (.int .i64 a2), (.int .i64 a3), (.int .i64 a4)]⟩), ((H ++ [some (Blk.mk .fix [(.int .i64 x0), (.int .i64 x1), (.int .i64 x2), (.int .i64 x3), (.int .i64 x4), (.int .i64 x5), (.bool d)])]) ++ [some (Blk.mk .fix [(.int .i64 x1), (.int .i64 x2), (.int .i64 x3), (.int .i64 x4), (.int .i64 1)])])))
 (.claim (opA (Plain.env tblW noEnv) (.load (.const (.pointer (some ⟨((H ++ [some (Blk.mk .fix [(.int .i64 x0), (.int .i64 x1), (.int .i64 x2), (.int .i64 x3), (.int .i64 x4), (.int .i64 x5), (.bool d)])])).length, 0, none⟩))) (some 5)) [] ((H ++ [some (Blk.mk .fix [(.int .i64 x0), (.int .i64 x1), (.int .i64 x2), (.int .i64 x3), (.int .i64 x4), (.int .i64 x5), (.bool d)])]) ++ [some (Blk.mk .fix [(.int .i64 x1), (.int .i64 x2), (.int .i64 x3), (.int .i64 x4), (.int .i64 1)])]) = some ((.agg ⟨[(.int .i64 x1), (.int .i64 x2), (.int .i64 x3), (.int .i64 x4), (.int .i64 1)]⟩), ((H ++ [some (Blk.mk .fix [(.int .i64 x0), (.int .i64 x1), (.int .i64 x2), (.int .i64 x3), (.int .i64 x4), (.int .i64 x5), (.bool d)])]) ++ [some (Blk.mk .fix [(.int .i64 x1), (.int .i64 x2), (.int .i64 x3), (.int .i64 x4), (.int .i64 1)])])))
 (.req true (.claim (opA (Plain.env tblW noEnv) (.store (.const (.pointer (some ⟨b3, 0, none⟩))) (.const (.agg ⟨[(.int .i64 (pl a0 x1)), (.int .i64 (pl a1 x2)), (.int .i64 (pl a2 x3)), (.int .i64 (pl a3 x4)), (.int .i64 (pl a4 1))]⟩)) 5) [] ((H ++ [some (Blk.mk .fix [(.int .i64 x0), (.int .i64 x1), (.int .i64 x2), (.int .i64 x3), (.int .i64 x4), (.int .i64 x5), (.bool d)])]) ++ [some (Blk.mk .fix [(.int .i64 x1), (.int .i64 x2), (.int .i64 x3), (.int .i64 x4), (.int .i64 1)])]) = some ((.tuple ⟨[]⟩), (((H.set b3 (some (Blk.mk .fix [(.int .i64 (pl a0 x1)), (.int .i64 (pl a1 x2)), (.int .i64 (pl a2 x3)), (.int .i64 (pl a3 x4)), (.int .i64 (pl a4 1))]))) ++ [some (Blk.mk .fix [(.int .i64 x0), (.int .i64 x1), (.int .i64 x2), (.int .i64 x3), (.int .i64 x4), (.int .i64 x5), (.bool d)])]) ++ [some (Blk.mk .fix [(.int .i64 x1), (.int .i64 x2), (.int .i64 x3), (.int .i64 x4), (.int .i64 1)])])))
 (.ret (pk .normal (fr 30 [(2, (.pointer (some ⟨b2, 0, none⟩))), (3, (.pointer (some ⟨b3, 0, none⟩))), (7, s), (8, (.int .i64 n)), (9, (.int .i64 (IntKind.wrap .i64 (i + 1))))])) (((H.set b3 (some (Blk.mk .fix [(.int .i64 (pl a0 x1)), (.int .i64 (pl a1 x2)), (.int .i64 (pl a2 x3)), (.int .i64 (pl a3 x4)), (.int .i64 (pl a4 1))]))) ++ [some (Blk.mk .fix [(.int .i64 x0), (.int .i64 x1), (.int .i64 x2), (.int .i64 x3), (.int .i64 x4), (.int .i64 x5), (.bool d)])]) ++ [some (Blk.mk .fix [(.int .i64 x1), (.int .i64 x2), (.int .i64 x3), (.int .i64 x4), (.int .i64 1)])])))))))
 (.claim (opA (Plain.env tblW noEnv) (.load (.const (.pointer (some ⟨b3, 0, none⟩))) (some 5)) [] ((H ++ [some (Blk.mk .fix [(.int .i64 x0), (.int .i64 x1), (.int .i64 x2), (.int .i64 x3), (.int .i64 x4), (.int .i64 x5), (.bool d)])]) ++ [some (Blk.mk .fix [(.int .i64 x1), (.int .i64 x2), (.int .i64 x3), (.int .i64 x4), (.int .i64 0)])]) = some ((.agg ⟨[(.int .i64 a0), (.int .i64 a1), (.int .i64 a2), (.int .i64 a3), (.int .i64 a4)]⟩), ((H ++ [some (Blk.mk .fix [(.int .i64 x0), (.int .i64 x1), (.int .i64 x2), (.int .i64 x3), (.int .i64 x4), (.int .i64 x5), (.bool d)])]) ++ [some (Blk.mk .fix [(.int .i64 x1), (.int .i64 x2), (.int .i64 x3), (.int .i64 x4), (.int .i64 0)])])))
 (.claim (opA (Plain.env tblW noEnv) (.load (.const (.pointer (some ⟨((H ++ [some (Blk.mk .fix [(.int .i64 x0), (.int .i64 x1), (.int .i64 x2), (.int .i64 x3), (.int .i64 x4), (.int .i64 x5), (.bool d)])])).length, 0, none⟩))) (some 5)) [] ((H ++ [some (Blk.mk .fix [(.int .i64 x0), (.int .i64 x1), (.int .i64 x2), (.int .i64 x3), (.int .i64 x4), (.int .i64 x5), (.bool d)])]) ++ [some (Blk.mk .fix [(.int .i64 x1), (.int .i64 x2), (.int .i64 x3), (.int .i64 x4), (.int .i64 0)])]) = some ((.agg ⟨[(.int .i64 x1), (.int .i64 x2), (.int .i64 x3), (.int .i64 x4), (.int .i64 0)]⟩), ((H ++ [some (Blk.mk .fix [(.int .i64 x0), (.int .i64 x1), (.int .i64 x2), (.int .i64 x3), (.int .i64 x4), (.int .i64 x5), (.bool d)])]) ++ [some (Blk.mk .fix [(.int .i64 x1), (.int .i64 x2), (.int .i64 x3), (.int .i64 x4), (.int .i64 0)])])))
 (.req true (.claim (opA (Plain.env tblW noEnv) (.store (.const (.pointer (some ⟨b3, 0, none⟩))) (.const (.agg ⟨[(.int .i64 (pl a0 x1)), (.int .i64 (pl a1 x2)), (.int .i64 (pl a2 x3)), (.int .i64 (pl a3 x4)), (.int .i64 (pl a4 0))]⟩)) 5) [] ((H ++ [some (Blk.mk .fix [(.int .i64 x0), (.int .i64 x1), (.int .i64 x2), (.int .i64 x3), (.int .i64 x4), (.int .i64 x5), (.bool d)])]) ++ [some (Blk.mk .fix [(.int .i64 x1), (.int .i64 x2), (.int .i64 x3), (.int .i64 x4), (.int .i64 0)])]) = some ((.tuple ⟨[]⟩), (((H.set b3 (some (Blk.mk .fix [(.int .i64 (pl a0 x1)), (.int .i64 (pl a1 x2)), (.int .i64 (pl a2 x3)), (.int .i64 (pl a3 x4)), (.int .i64 (pl a4 0))]))) ++ [some (Blk.mk .fix [(.int .i64 x0), (.int .i64 x1), (.int .i64 x2), (.int .i64 x3), (.int .i64 x4), (.int .i64 x5), (.bool d)])]) ++ [some (Blk.mk .fix [(.int .i64 x1), (.int .i64 x2), (.int .i64 x3), (.int .i64 x4), (.int .i64 0)])])))
 (.ret (pk .normal (fr 30 [(2, (.pointer (some ⟨b2, 0, none⟩))), (3, (.pointer (some ⟨b3, 0, none⟩))), (7, s), (8, (.int .i64 n)), (9, (.int .i64 (IntKind.wrap .i64 (i + 1))))])) (((H.set b3 (some (Blk.mk .fix [(.int .i64 (pl a0 x1)), (.int .i64 (pl a1 x2)), (.int .i64 (pl a2 x3)), (.int .i64 (pl a3 x4)), (.int .i64 (pl a4 0))]))) ++ [some (Blk.mk .fix [(.int .i64 x0), (.int .i64 x1), (.int .i64 x2), (.int .i64 x3), (.int .i64 x4), (.int .i64 x5), (.bool d)])]) ++ [some (Blk.mk .fix [(.int .i64 x1), (.int .i64 x2), (.int .i64 x3), (.int .i64 x4), (.int .i64 0)])]))))))))))))))))
 (.ret (pk (.exit 0) (fr 30 [(2, (.pointer (some ⟨b2, 0, none⟩))), (3, (.pointer (some ⟨b3, 0, none⟩))), (7, s), (8, (.int .i64 n)), (9, (.int .i64 i))])) H)) := by kernel_rfl
def il30b : IL := .seq (.reg [
     ⟨(some 29), none, .load (.tmp 3) (some 5)⟩,
     ⟨none, none, .store (.tmp 2) (.tmp 29) 5⟩])
  (.ret)
def hn30b (b2 b3 : Nat) (a0 a1 a2 a3 a4 : Int) (H : Heap) : Hj := (.use 29 (.agg ⟨[(.int .i64 a0), (.int .i64 a1), (.int .i64 a2), (.int .i64 a3), (.int .i64 a4)]⟩) H (.use 9999 (.tuple ⟨[]⟩) (H.set b2 (some (Blk.mk .fix [(.int .i64 a0), (.int .i64 a1), (.int .i64 a2), (.int .i64 a3), (.int .i64 a4)]))) .nil))
theorem tree30b (b2 b3 : Nat) (a0 a1 a2 a3 a4 : Int) (H : Heap) : pieceT tblW noEnv 100 (resLv [.cell 2 (some 5)]) il30b (hn30b b2 b3 a0 a1 a2 a3 a4 H) (fr 30 [(2, (.pointer (some ⟨b2, 0, none⟩))), (3, (.pointer (some ⟨b3, 0, none⟩)))]) H =
(.claim (opA (Plain.env tblW noEnv) (.load (.const (.pointer (some ⟨b3, 0, none⟩))) (some 5)) [] H = some ((.agg ⟨[(.int .i64 a0), (.int .i64 a1), (.int .i64 a2), (.int .i64 a3), (.int .i64 a4)]⟩), H))
 (.claim (opA (Plain.env tblW noEnv) (.store (.const (.pointer (some ⟨b2, 0, none⟩))) (.const (.agg ⟨[(.int .i64 a0), (.int .i64 a1), (.int .i64 a2), (.int .i64 a3), (.int .i64 a4)]⟩)) 5) [] H = some ((.tuple ⟨[]⟩), (H.set b2 (some (Blk.mk .fix [(.int .i64 a0), (.int .i64 a1), (.int .i64 a2), (.int .i64 a3), (.int .i64 a4)])))))
 (.ret (pk .ret (fr 30 [(2, (.pointer (some ⟨b2, 0, none⟩)))])) (H.set b2 (some (Blk.mk .fix [(.int .i64 a0), (.int .i64 a1), (.int .i64 a2), (.int .i64 a3), (.int .i64 a4)])))))) := by kernel_rfl
def il30a : IL := .seq (.reg [
     ⟨(some 2), none, .alloc [(.int .i64 0), (.int .i64 0), (.int .i64 0), (.int .i64 0), (.int .i64 0)]⟩])
  (.seq (.reg [
     ⟨(some 3), none, .alloc [(.int .i64 0), (.int .i64 0), (.int .i64 0), (.int .i64 0), (.int .i64 0)]⟩])
  (.seq (.reg [
     ⟨(some 7), none, .mov (.tmp 0)⟩,
     ⟨(some 8), none, .len (.tmp 7)⟩,
     ⟨(some 9), none, .mov (.const (.int .i64 0))⟩])
  (.block 0
    (.loop
      (.seq (.reg [
         ⟨(some 10), none, .bin .lss (.tmp 9) (.tmp 8)⟩])
      (.seq (.ite (.tmp 10)
         (.skip)
         (.exit 0))
      (.seq (.block 1
         (.seq (.reg [
            ⟨(some 11), none, .iadr 7 none (.tmp 7) (.tmp 9)⟩,
            ⟨(some 12), none, .load (.tmp 11) (some 7)⟩,
            ⟨(some 5), none, .alloc [(.int .i64 0), (.int .i64 0), (.int .i64 0), (.int .i64 0), (.int .i64 0), (.int .i64 0), (.bool false)]⟩,
            ⟨none, none, .store (.tmp 5) (.tmp 12) 7⟩])
         (.seq (.reg [
            ⟨(some 13), none, .fadr 1 (.tmp 5)⟩,
            ⟨(some 14), none, .load (.tmp 13) none⟩,
            ⟨(some 15), none, .fadr 2 (.tmp 5)⟩,
            ⟨(some 16), none, .load (.tmp 15) none⟩,
            ⟨(some 17), none, .fadr 3 (.tmp 5)⟩,
            ⟨(some 18), none, .load (.tmp 17) none⟩,
            ⟨(some 19), none, .fadr 4 (.tmp 5)⟩,
            ⟨(some 20), none, .load (.tmp 19) none⟩,
            ⟨(some 21), none, .build [(.int .i64 0), (.int .i64 0), (.int .i64 0), (.int .i64 0), (.int .i64 0)] [(0, 1, (.tmp 14)), (1, 1, (.tmp 16)), (2, 1, (.tmp 18)), (3, 1, (.tmp 20))]⟩,
            ⟨(some 6), none, .alloc [(.int .i64 0), (.int .i64 0), (.int .i64 0), (.int .i64 0), (.int .i64 0)]⟩,
            ⟨none, none, .store (.tmp 6) (.tmp 21) 5⟩])
         (.seq (.seq (.reg [
             ⟨(some 22), none, .fadr 6 (.tmp 5)⟩,
             ⟨(some 23), none, .load (.tmp 22) none⟩])
          (.ite (.tmp 23)
            (.reg [
              ⟨(some 24), none, .fadr 4 (.tmp 6)⟩,
              ⟨none, none, .store (.tmp 24) (.const (.int .i64 1)) 1⟩])
            (.skip)))
         (.reg [
           ⟨(some 25), none, .load (.tmp 3) (some 5)⟩,
           ⟨(some 26), none, .load (.tmp 6) (some 5)⟩,
           ⟨(some 27), none, .call 34 [(.tmp 25), (.tmp 26)]⟩,
           ⟨none, none, .store (.tmp 3) (.tmp 27) 5⟩])))))
      (.reg [
        ⟨(some 28), none, .bin .add (.tmp 9) (.const (.int .i64 1))⟩,
        ⟨(some 9), none, .mov (.tmp 28)⟩]))))))))
def hn30a (s : Value) (n : Int) (H H1 : Heap) : Hj := (.use 8 (.int .i64 n) ((H ++ [some (Blk.mk .fix [(.int .i64 0), (.int .i64 0), (.int .i64 0), (.int .i64 0), (.int .i64 0)])]) ++ [some (Blk.mk .fix [(.int .i64 0), (.int .i64 0), (.int .i64 0), (.int .i64 0), (.int .i64 0)])]) (.lp 0 [2, 3] (fr 30 [(2, (.pointer (some ⟨H.length, 0, none⟩))), (3, (.pointer (some ⟨(H ++ [some (Blk.mk .fix [(.int .i64 0), (.int .i64 0), (.int .i64 0), (.int .i64 0), (.int .i64 0)])]).length, 0, none⟩)))]) H1 .nil))
theorem tree30a (s : Value) (n : Int) (H H1 : Heap) : pieceT tblW noEnv 100 (fun i => exL i il30b || resLv [.cell 2 (some 5)] i) il30a (hn30a s n H H1) (fr 30 [(0, s)]) H =
(.claim (opA (Plain.env tblW noEnv) (.len (.const s)) [] ((H ++ [some (Blk.mk .fix [(.int .i64 0), (.int .i64 0), (.int .i64 0), (.int .i64 0), (.int .i64 0)])]) ++ [some (Blk.mk .fix [(.int .i64 0), (.int .i64 0), (.int .i64 0), (.int .i64 0), (.int .i64 0)])]) = some ((.int .i64 n), ((H ++ [some (Blk.mk .fix [(.int .i64 0), (.int .i64 0), (.int .i64 0), (.int .i64 0), (.int .i64 0)])]) ++ [some (Blk.mk .fix [(.int .i64 0), (.int .i64 0), (.int .i64 0), (.int .i64 0), (.int .i64 0)])])))
 (.claim (Wp (Plain.env tblW noEnv) (inL [2, 3]) (.block 0 (.loop body30_0)) (fr 30 [(2, (.pointer (some ⟨(H).length, 0, none⟩))), (3, (.pointer (some ⟨((H ++ [some (Blk.mk .fix [(.int .i64 0), (.int .i64 0), (.int .i64 0), (.int .i64 0), (.int .i64 0)])])).length, 0, none⟩))), (7, s), (8, (.int .i64 n)), (9, (.int .i64 0))]) ((H ++ [some (Blk.mk .fix [(.int .i64 0), (.int .i64 0), (.int .i64 0), (.int .i64 0), (.int .i64 0)])]) ++ [some (Blk.mk .fix [(.int .i64 0), (.int .i64 0), (.int .i64 0), (.int .i64 0), (.int .i64 0)])]) fun e s h' => e = .normal ∧ s = (fr 30 [(2, (.pointer (some ⟨H.length, 0, none⟩))), (3, (.pointer (some ⟨(H ++ [some (Blk.mk .fix [(.int .i64 0), (.int .i64 0), (.int .i64 0), (.int .i64 0), (.int .i64 0)])]).length, 0, none⟩)))]) ∧ h' = H1)
 (.ret (pk .normal (fr 30 [(2, (.pointer (some ⟨H.length, 0, none⟩))), (3, (.pointer (some ⟨(H ++ [some (Blk.mk .fix [(.int .i64 0), (.int .i64 0), (.int .i64 0), (.int .i64 0), (.int .i64 0)])]).length, 0, none⟩)))])) H1))) := by kernel_rfl

theorem stW : stF Try.prog qt 19 = some ilWithin := by kernel_rfl
theorem plus_sim (a0 a1 a2 a3 a4 b0 b1 b2 b3 b4 : Int) : Sim Try.prog 34 [(.agg ⟨[.int .i64 a0, .int .i64 a1, .int .i64 a2, .int .i64 a3, .int .i64 a4]⟩), (.agg ⟨[.int .i64 b0, .int .i64 b1, .int .i64 b2, .int .i64 b3, .int .i64 b4]⟩)] [] fun v _ => v = .agg ⟨[.int .i64 (pl a0 b0), .int .i64 (pl a1 b1), .int .i64 (pl a2 b2), .int .i64 (pl a3 b3), .int .i64 (pl a4 b4)]⟩ := by
  refine fnU_sim mixed (T := []) (Γ := noEnv) (Plain.ok .nil noEnv_ok) (Plain.quiet noEnv_quiet) st34 (fuel := 100) (hn := hn34) ?_
  rw [tree34]
  rfl
theorem cash_sim (a0 a1 a2 a3 a4 : Int) : Sim Try.prog 32 [(.agg ⟨[.int .i64 a0, .int .i64 a1, .int .i64 a2, .int .i64 a3, .int .i64 a4]⟩)] [] fun v _ => v = .int .i64 (pl (pl (pl a0 a1) a2) a3) := by
  refine fnU_sim mixed (T := []) (Γ := noEnv) (Plain.ok .nil noEnv_ok) (Plain.quiet noEnv_quiet) st32 (fuel := 100) (hn := hn32) ?_
  rw [tree32]
  rfl
theorem entPlus (args : List Value) (v : Value) (e : sPlus args = some (true, v)) : args.all (belowV 0) = true ∧ belowV 0 v = true ∧ Sim Try.prog 34 args [] fun v1 _ => v1 = v := by
  unfold sPlus at e
  split at e
  · rename_i a b
    split at e
    · rename_i a0 a1 a2 a3 a4 b0 b1 b2 b3 b4 h1 h2
      cases e
      obtain ⟨l⟩ := a
      obtain ⟨m⟩ := b
      have e1 := intsOf_eq h1
      have e2 := intsOf_eq h2
      dsimp only at e1 e2
      subst e1 e2
      refine ⟨rfl, rfl, ?_⟩
      exact plus_sim a0 a1 a2 a3 a4 b0 b1 b2 b3 b4
    · cases e
  · cases e
theorem entCash (args : List Value) (v : Value) (e : sCash args = some (true, v)) : args.all (belowV 0) = true ∧ belowV 0 v = true ∧ Sim Try.prog 32 args [] fun v1 _ => v1 = v := by
  unfold sCash at e
  split at e
  · rename_i a
    split at e
    · rename_i a0 a1 a2 a3 a4 h1
      cases e
      obtain ⟨l⟩ := a
      have e1 := intsOf_eq h1
      dsimp only at e1
      subst e1
      refine ⟨rfl, rfl, ?_⟩
      exact cash_sim a0 a1 a2 a3 a4
    · cases e
  · cases e
theorem okW : PlainOk Try.prog tblW := .cons (within_ok mixed stW) <| .cons entPlus <| .cons entCash .nil
/-! ### The sum of lines -/
abbrev fr30 (b2 b3 : Nat) (s : Value) (n k : Int) : Fr := fr 30 [(2, (.pointer (some ⟨b2, 0, none⟩))), (3, (.pointer (some ⟨b3, 0, none⟩))), (7, s), (8, (.int .i64 n)), (9, (.int .i64 k))]
structure In30 (h0 : Heap) (b2 b3 : Nat) (x : Tot) (H : Heap) : Prop where
  old : H.take h0.length = h0
  g2 : h0.length ≤ b2
  g3 : h0.length ≤ b3
  ne : b3 ≠ b2
  r2 : rd H b2 = some ⟨.fix, zero.c⟩
  r3 : rd H b3 = some ⟨.fix, x.c⟩
theorem In30.len {h0 : Heap} {b2 b3 : Nat} {x : Tot} {H : Heap} (i : In30 h0 b2 b3 x H) : h0.length ≤ H.length := Nat.le_trans i.g2 (Nat.le_of_lt (rd_lt i.r2))
theorem In30.next {h0 : Heap} {b2 b3 : Nat} {x y : Tot} {H : Heap} (i : In30 h0 b2 b3 x H) (X Y : Option Blk) : In30 h0 b2 b3 y (((H.set b3 (some ⟨.fix, y.c⟩)) ++ [X]) ++ [Y]) where
  old := take_app (take_app (take_set i.old i.g3) (by simpa using i.len)) (by have := i.len; simp; omega)
  g2 := i.g2
  g3 := i.g3
  ne := i.ne
  r2 := rd_old (rd_old (by rw [rd_set_ne i.ne]; exact i.r2))
  r3 := rd_old (rd_old (rd_set (rd_lt i.r3)))
def inv30 (h0 : Heap) (s : Value) (rows : List Ln) (b2 b3 : Nat) (m : Nat) (t : Fr) (H : Heap) : Prop :=
  ∃ k, k + m = rows.length ∧ t = fr30 b2 b3 s rows.length k ∧ In30 h0 b2 b3 (tot (rows.take k)) H
theorem loop30 {h0 : Heap} {s : Value} {rows : List Ln} {b2 b3 : Nat} {H0 : Heap} (hs : RowsAt 7 h0 s (rows.map Ln.enc)) (hl : rows.length ≤ 1099511627776) (i0 : In30 h0 b2 b3 zero H0) :
    Wp (Plain.env tblW noEnv) (inL [2, 3]) (.block 0 (.loop body30_0)) (fr30 b2 b3 s rows.length 0) H0 fun e t H => e = .normal ∧ t = fr 30 [(2, (.pointer (some ⟨b2, 0, none⟩))), (3, (.pointer (some ⟨b3, 0, none⟩)))] ∧ In30 h0 b2 b3 (tot rows) H := by
  refine Wp.block ((Wp.loop (K := fun e t H => e = .exit 0 ∧ t = fr30 b2 b3 s rows.length rows.length ∧ In30 h0 b2 b3 (tot rows) H) (inv30 h0 s rows b2 b3) ?_ rows.length _ _ ⟨0, by omega, rfl, i0⟩).ends fun e t H ⟨q1, q2, q3⟩ => ?_)
  · rintro m t H ⟨k, hk, ht, hI⟩
    subst ht
    cases m with
    | zero =>
      have hkl : k = rows.length := by omega
      subst hkl
      refine Wp.piece 100 (hb30_0 s (.bool false) rows.length rows.length b2 b3 0 0 0 0 0 0 0 0 0 0 0 false H) ?_
      rw [turn30_0]
      refine ⟨fun q => by simp at q, fun _ => outP_pk ⟨rfl, rfl, ?_⟩⟩
      rw [List.take_length] at hI
      exact hI
    | succ m =>
      have hlt : k < rows.length := by omega
      have hx : rows[k]? = some rows[k] := List.getElem?_eq_getElem hlt
      generalize rows[k] = x at hx
      obtain ⟨q, hq1, hq2, _⟩ := (hs.more fun B blk e => rd_take hI.old e).at_ (i := k) (row := x.enc) (by rw [List.getElem?_map, hx]; rfl)
      have nx := tot_take hx
      refine Wp.piece 100 (hb30_0 s q rows.length k b2 b3 (tot (rows.take k)).p (tot (rows.take k)).q (tot (rows.take k)).r (tot (rows.take k)).s (tot (rows.take k)).t x.a x.b x.c x.e x.f x.g x.d H) ?_
      rw [turn30_0]
      have r3 := hI.r3
      have lt3 := rd_lt r3
      have wi : IntKind.wrap .i64 ((k : Int) + 1) = ((k + 1 : Nat) : Int) := by rw [wrap_id (by omega) (by omega)]; rfl
      rw [wi]
      refine ⟨fun _ => ⟨hq1 _ _, hq2 _, st_ (rd_last rfl) (by intro q; cases q) rfl rfl (by simp) rfl (set_last rfl), ld1 (rd_last rfl) rfl, ld1 (rd_last rfl) rfl, ld1 (rd_last rfl) rfl, ld1 (rd_last rfl) rfl, st_ (rd_last rfl) (by intro q; cases q) rfl rfl (by simp) rfl (set_last rfl), ld1 (rd_old (rd_last rfl)) rfl, fun hd => ⟨st_ (rd_last rfl) (by intro q; cases q) rfl rfl (by simp) rfl (set_last rfl), ldn (rd_old (rd_old r3)) (by simp [Tot.c]) rfl, ldn (rd_last rfl) (by simp) rfl, rfl, st_ (rd_old (rd_old r3)) (by intro q; cases q) rfl rfl (by simp [Tot.c]) rfl (by rw [set_old (by simp; omega), set_old lt3]; rfl), ?_⟩, fun hd => ⟨ldn (rd_old (rd_old r3)) (by simp [Tot.c]) rfl, ldn (rd_last rfl) (by simp) rfl, rfl, st_ (rd_old (rd_old r3)) (by intro q; cases q) rfl rfl (by simp [Tot.c]) rfl (by rw [set_old (by simp; omega), set_old lt3]; rfl), ?_⟩⟩, fun q => by simp at q; omega⟩
      · refine outP_pk ⟨m, by omega, k + 1, by omega, rfl, ?_⟩
        rw [nx]
        have h5 : plus (tot (rows.take k)) (one x) = ⟨pl (tot (rows.take k)).p x.b, pl (tot (rows.take k)).q x.c, pl (tot (rows.take k)).r x.e, pl (tot (rows.take k)).s x.f, pl (tot (rows.take k)).t 1⟩ := by simp [plus, one, hd]
        rw [h5]
        exact hI.next _ _
      · refine outP_pk ⟨m, by omega, k + 1, by omega, rfl, ?_⟩
        rw [nx]
        have h5 : plus (tot (rows.take k)) (one x) = ⟨pl (tot (rows.take k)).p x.b, pl (tot (rows.take k)).q x.c, pl (tot (rows.take k)).r x.e, pl (tot (rows.take k)).s x.f, pl (tot (rows.take k)).t 0⟩ := by simp [plus, one, hd]
        rw [h5]
        exact hI.next _ _
  · subst q1 q2
    exact ⟨_, norm_ag (inL [2, 3]) _, rfl, by kernel_rfl, q3⟩
theorem sp30 : splitS 2 il30.body = (il30a, il30b) := by kernel_rfl
theorem start30 (s : Value) : (([s] : List Value) ++ List.replicate (il30.ntmps - ([s] : List Value).length) undef) = fr 30 [(0, s)] := by kernel_rfl
theorem sum_sim {h0 : Heap} {s : Value} {rows : List Ln} (hs : RowsAt 7 h0 s (rows.map Ln.enc)) (hl : rows.length ≤ 1099511627776) : Sim Try.prog 30 [s] h0 fun v h' => v = (tot rows).v ∧ h' = h0 := by
  refine Sim.keep ?_ (fun v hv => by subst hv; rfl)
  refine wp_sim' mixed (Plain.ok okW noEnv_ok) (Plain.quiet noEnv_quiet) st30 ?_
  rw [start30, show il30.res = [.cell 2 (some 5)] from rfl]
  refine Wp.split' (lv' := fun i => exL i il30b || resLv [.cell 2 (some 5)] i) sp30 (fun i q => q) ?_
  have i0 : In30 h0 h0.length (h0 ++ [some (Blk.mk .fix zero.c)]).length zero ((h0 ++ [some (Blk.mk .fix zero.c)]) ++ [some (Blk.mk .fix zero.c)]) :=
    ⟨take_app (take_app (List.take_length) (Nat.le_refl _)) (by simp), Nat.le_refl _, by simp, by simp, rd_old (rd_last rfl), rd_last rfl⟩
  obtain ⟨e, t, H1, ⟨k1, k2, k3⟩, w⟩ := (loop30 hs hl i0).exact
  subst k1 k2
  refine Wp.piece 100 (hn30a s rows.length h0 H1) ?_
  rw [tree30a]
  refine ⟨by have := hs.len (Γ := Plain.env tblW noEnv) (H := ((h0 ++ [some (Blk.mk .fix zero.c)]) ++ [some (Blk.mk .fix zero.c)])); rw [List.length_map] at this; exact this, w, outP_pk ?_⟩
  refine Wp.piece 100 (hn30b h0.length (h0 ++ [some (Blk.mk .fix [(.int .i64 0), (.int .i64 0), (.int .i64 0), (.int .i64 0), (.int .i64 0)])]).length (tot rows).p (tot rows).q (tot rows).r (tot rows).s (tot rows).t H1) ?_
  rw [tree30b]
  refine ⟨ldn k3.r3 (by simp [Tot.c]) rfl, st_ k3.r2 (by intro q; cases q) rfl rfl (by simp [Tot.c, zero]) rfl rfl, outP_pk ⟨.inr rfl, _, res_cell rfl (rd_set (rd_lt k3.r2)) rfl, rfl, ?_, take_set k3.old (Nat.le_refl _)⟩⟩
  have := k3.len
  simpa using this
end Go.Proofs.Ytjnppjipoibbeaa.Tape
