/-
  late: buckets of loans; the document's buckets.
-/
import Derived.Test.YtjnppjipoibbeaaPcLines
import Derived.Test.YtjnppjipoibbeaaPcPlus
import Derived.Test.YtjnppjipoibbeaaClLateRuns
namespace Go.Proofs.Ytjnppjipoibbeaa.Buck
open Go.Am
open Tape (pl wrap_l wrap_r wrap_def mixed)
set_option linter.all false
set_option maxRecDepth 100000
abbrev qtB : List Nat := [7,16,17,18,19,20,24,25,26,27,28,29,37]
structure Lo where
  a : Int
  b : Int
  c : Int
  m : Int
  d : Bool
def Lo.enc (x : Lo) : List Value := [.int .i64 x.a, .int .i64 x.b, .int .i64 x.c, .int .i64 x.m, .bool x.d]
def bkN (m : Int) : Nat := if m < 1 then 0 else if m < 3 then 1 else if m < 6 then 2 else 3
structure Bu where
  p : Int
  q : Int
  r : Int
  s : Int
def Bu.c (x : Bu) : List Value := [.int .i64 x.p, .int .i64 x.q, .int .i64 x.r, .int .i64 x.s]
def Bu.v (x : Bu) : Value := .agg ⟨x.c⟩
def zeroB : Bu := ⟨0, 0, 0, 0⟩
def addB (t : Bu) (k : Nat) (x : Int) : Bu := match k with
  | 0 => ⟨IntKind.wrap .i64 (t.p + x), t.q, t.r, t.s⟩
  | 1 => ⟨t.p, IntKind.wrap .i64 (t.q + x), t.r, t.s⟩
  | 2 => ⟨t.p, t.q, IntKind.wrap .i64 (t.r + x), t.s⟩
  | _ => ⟨t.p, t.q, t.r, IntKind.wrap .i64 (t.s + x)⟩
def buc (l : List Lo) : Bu := l.foldl (fun t x => addB t (bkN x.m) x.b) zeroB
theorem buc_take {l : List Lo} {k : Nat} {x : Lo} (h : l[k]? = some x) : buc (l.take (k + 1)) = addB (buc (l.take k)) (bkN x.m) x.b := by
  have : l.take (k + 1) = l.take k ++ [x] := by
    rw [List.take_succ, h]; rfl
  rw [this, buc, List.foldl_append]
  rfl
def sBk : List Value → Option (Bool × Value)
  | [.int .i64 m] => some (true, .int .i64 (bkN m))
  | _ => none
def sLoan : List Value → Option (Bool × Value)
  | [.int .i64 n, .int .i64 m] => some (true, .agg ⟨[.int .i64 0, .int .i64 n, .int .i64 0, .int .i64 m, .bool false]⟩)
  | _ => none
def sTrue : List Value → Option (Bool × Value) | [] => some (true, .bool true) | _ => none
def tblB : Plain := [(19, sWithin), (37, sBk), (25, sLoan), (7, sTrue)]
/-- cascade/late.bucket -/
def il37 : FnIL := ⟨12, [.tmp 2],
  .seq (.reg [
     ⟨(some 2), none, .mov (.const (.int .i64 0))⟩])
  (.seq (.block 0
     (.seq (.reg [
        ⟨(some 4), none, .mov (.tmp 0)⟩,
        ⟨(some 5), none, .bin .lss (.tmp 4) (.const (.int .i64 1))⟩,
        ⟨(some 3), none, .mov (.tmp 5)⟩])
     (.ite (.tmp 3)
       (.seq (.reg [
          ⟨(some 2), none, .mov (.const (.int .i64 0))⟩])
       (.ret))
       (.seq (.reg [
          ⟨(some 7), none, .mov (.tmp 0)⟩,
          ⟨(some 8), none, .bin .lss (.tmp 7) (.const (.int .i64 3))⟩,
          ⟨(some 6), none, .mov (.tmp 8)⟩])
       (.ite (.tmp 6)
         (.seq (.reg [
            ⟨(some 2), none, .mov (.const (.int .i64 1))⟩])
         (.ret))
         (.seq (.reg [
            ⟨(some 10), none, .mov (.tmp 0)⟩,
            ⟨(some 11), none, .bin .lss (.tmp 10) (.const (.int .i64 6))⟩,
            ⟨(some 9), none, .mov (.tmp 11)⟩])
         (.ite (.tmp 9)
           (.seq (.reg [
              ⟨(some 2), none, .mov (.const (.int .i64 2))⟩])
           (.ret))
           (.skip))))))))
  (.seq (.reg [
     ⟨(some 2), none, .mov (.const (.int .i64 3))⟩])
  (.ret)))⟩
theorem st37 : stF Try.prog qtB 37 = some il37 := by kernel_rfl
def hn37 : Hj := (.sym .nil (.sym .nil (.sym .nil .nil)))
theorem tree37 (m : Int) : fnU [] noEnv 100 il37 hn37 [.int .i64 m] [] =
(.br (decide (m < 1))
 (.ret (.int .i64 0) [])
 (.br (decide (m < 3))
 (.ret (.int .i64 1) [])
 (.br (decide (m < 6))
 (.ret (.int .i64 2) [])
 (.ret (.int .i64 3) [])))) := by kernel_rfl
/-- cascade/cascadelaw10.loan -/
def il25 : FnIL := ⟨12, [.cell 4 (some 5)],
  .seq (.reg [
     ⟨(some 4), none, .alloc [(.int .i64 0), (.int .i64 0), (.int .i64 0), (.int .i64 0), (.bool false)]⟩])
  (.seq (.reg [
     ⟨(some 6), none, .mov (.tmp 1)⟩,
     ⟨(some 7), none, .build [(.int .i64 0), (.int .i64 0), (.int .i64 0), (.int .i64 0), (.bool false)] [(3, 1, (.tmp 6))]⟩,
     ⟨(some 5), none, .alloc [(.int .i64 0), (.int .i64 0), (.int .i64 0), (.int .i64 0), (.bool false)]⟩,
     ⟨none, none, .store (.tmp 5) (.tmp 7) 5⟩])
  (.seq (.reg [
     ⟨(some 8), none, .mov (.tmp 0)⟩,
     ⟨(some 9), none, .fadr 0 (.tmp 5)⟩,
     ⟨(some 10), none, .fadr 1 (.tmp 9)⟩,
     ⟨none, none, .store (.tmp 10) (.tmp 8) 1⟩])
  (.seq (.reg [
     ⟨(some 11), none, .load (.tmp 5) (some 5)⟩,
     ⟨none, none, .store (.tmp 4) (.tmp 11) 5⟩])
  (.ret))))⟩
theorem st25 : stF Try.prog qtB 25 = some il25 := by kernel_rfl
def hn25 : Hj := .nil
theorem tree25 (n m : Int) : fnU [] noEnv 100 il25 hn25 [.int .i64 n, .int .i64 m] [] =
(.ret (.agg ⟨[(.int .i64 0), (.int .i64 n), (.int .i64 0), (.int .i64 m), (.bool false)]⟩) []) := by kernel_rfl
/-- cascade/late.Of -/
def il24 : FnIL := ⟨24, [.cell 2 (some 4)],
  .seq (.reg [
     ⟨(some 2), none, .alloc [(.int .i64 0), (.int .i64 0), (.int .i64 0), (.int .i64 0)]⟩])
  (.seq (.reg [
     ⟨(some 3), none, .alloc [(.int .i64 0), (.int .i64 0), (.int .i64 0), (.int .i64 0)]⟩])
  (.seq (.seq (.reg [
      ⟨(some 6), none, .mov (.tmp 0)⟩,
      ⟨(some 7), none, .len (.tmp 6)⟩,
      ⟨(some 8), none, .mov (.const (.int .i64 0))⟩])
   (.block 0
     (.loop
       (.seq (.reg [
          ⟨(some 9), none, .bin .lss (.tmp 8) (.tmp 7)⟩])
       (.seq (.ite (.tmp 9)
          (.skip)
          (.exit 0))
       (.seq (.block 1
          (.seq (.reg [
             ⟨(some 10), none, .iadr 5 none (.tmp 6) (.tmp 8)⟩,
             ⟨(some 11), none, .load (.tmp 10) (some 5)⟩,
             ⟨(some 5), none, .alloc [(.int .i64 0), (.int .i64 0), (.int .i64 0), (.int .i64 0), (.bool false)]⟩,
             ⟨none, none, .store (.tmp 5) (.tmp 11) 5⟩])
          (.dreg [
            ⟨(some 12), none, .fadr 3 (.tmp 5)⟩,
            ⟨(some 13), none, .load (.tmp 12) none⟩,
            ⟨(some 14), none, .call 37 [(.tmp 13)]⟩,
            ⟨(some 15), none, .iadr 1 (some 4) (.tmp 3) (.tmp 14)⟩,
            ⟨(some 16), none, .load (.tmp 15) none⟩,
            ⟨(some 17), none, .fadr 0 (.tmp 5)⟩,
            ⟨(some 18), none, .fadr 1 (.tmp 17)⟩,
            ⟨(some 19), none, .load (.tmp 18) none⟩,
            ⟨(some 20), none, .bin .add (.tmp 16) (.tmp 19)⟩,
            ⟨(some 21), none, .iadr 1 (some 4) (.tmp 3) (.tmp 14)⟩,
            ⟨none, none, .store (.tmp 21) (.tmp 20) 1⟩] [])))
       (.reg [
         ⟨(some 22), none, .bin .add (.tmp 8) (.const (.int .i64 1))⟩,
         ⟨(some 8), none, .mov (.tmp 22)⟩])))))))
  (.seq (.reg [
     ⟨(some 23), none, .load (.tmp 3) (some 4)⟩,
     ⟨none, none, .store (.tmp 2) (.tmp 23) 4⟩])
  (.ret))))⟩
theorem st24 : stF Try.prog qtB 24 = some il24 := by kernel_rfl
def body24_0 : IL := .seq (.reg [
     ⟨(some 9), none, .bin .lss (.tmp 8) (.tmp 7)⟩])
  (.seq (.ite (.tmp 9)
     (.skip)
     (.exit 0))
  (.seq (.block 1
     (.seq (.reg [
        ⟨(some 10), none, .iadr 5 none (.tmp 6) (.tmp 8)⟩,
        ⟨(some 11), none, .load (.tmp 10) (some 5)⟩,
        ⟨(some 5), none, .alloc [(.int .i64 0), (.int .i64 0), (.int .i64 0), (.int .i64 0), (.bool false)]⟩,
        ⟨none, none, .store (.tmp 5) (.tmp 11) 5⟩])
     (.dreg [
       ⟨(some 12), none, .fadr 3 (.tmp 5)⟩,
       ⟨(some 13), none, .load (.tmp 12) none⟩,
       ⟨(some 14), none, .call 37 [(.tmp 13)]⟩,
       ⟨(some 15), none, .iadr 1 (some 4) (.tmp 3) (.tmp 14)⟩,
       ⟨(some 16), none, .load (.tmp 15) none⟩,
       ⟨(some 17), none, .fadr 0 (.tmp 5)⟩,
       ⟨(some 18), none, .fadr 1 (.tmp 17)⟩,
       ⟨(some 19), none, .load (.tmp 18) none⟩,
       ⟨(some 20), none, .bin .add (.tmp 16) (.tmp 19)⟩,
       ⟨(some 21), none, .iadr 1 (some 4) (.tmp 3) (.tmp 14)⟩,
       ⟨none, none, .store (.tmp 21) (.tmp 20) 1⟩] [])))
  (.reg [
    ⟨(some 22), none, .bin .add (.tmp 8) (.const (.int .i64 1))⟩,
    ⟨(some 8), none, .mov (.tmp 22)⟩])))
def hn24x (s : Value) (n i : Int) (b2 b3 : Nat) (H : Heap) : Hj := (.no .nil)
theorem tree24x (s : Value) (n i : Int) (b2 b3 : Nat) (H : Heap) : pieceT tblB noEnv 100 (fun i => exL i body24_0 || inL [2, 3] i) body24_0 (hn24x s n i b2 b3 H) (fr 24 [(2, (.pointer (some ⟨b2, 0, none⟩))), (3, (.pointer (some ⟨b3, 0, none⟩))), (6, s), (7, (.int .i64 n)), (8, (.int .i64 i))]) H =
(.req (!(decide (i < n))) (.ret (pk (.exit 0) (fr 24 [(2, (.pointer (some ⟨b2, 0, none⟩))), (3, (.pointer (some ⟨b3, 0, none⟩))), (6, s), (7, (.int .i64 n)), (8, (.int .i64 i))])) H)) := by kernel_rfl
def hn24k0 (s q : Value) (n i : Int) (b2 b3 : Nat) (a0 a1 a2 a3 : Int) (x0 x1 x2 x3 : Int) (d : Bool) (H : Heap) : Hj := (.yes (.use 10 q H (.use 11 (.agg ⟨[(.int .i64 x0), (.int .i64 x1), (.int .i64 x2), (.int .i64 x3), (.bool d)]⟩) H (.use 9999 (.tuple ⟨[]⟩) (H ++ [some (Blk.mk .fix [(.int .i64 x0), (.int .i64 x1), (.int .i64 x2), (.int .i64 x3), (.bool d)])]) (.use 13 (.int .i64 x3) (H ++ [some (Blk.mk .fix [(.int .i64 x0), (.int .i64 x1), (.int .i64 x2), (.int .i64 x3), (.bool d)])]) (.use 14 (.int .i64 0) (H ++ [some (Blk.mk .fix [(.int .i64 x0), (.int .i64 x1), (.int .i64 x2), (.int .i64 x3), (.bool d)])]) (.use 16 (.int .i64 a0) (H ++ [some (Blk.mk .fix [(.int .i64 x0), (.int .i64 x1), (.int .i64 x2), (.int .i64 x3), (.bool d)])]) (.use 19 (.int .i64 x1) (H ++ [some (Blk.mk .fix [(.int .i64 x0), (.int .i64 x1), (.int .i64 x2), (.int .i64 x3), (.bool d)])]) (.use 9999 (.tuple ⟨[]⟩) ((H.set b3 (some (Blk.mk .fix [(.int .i64 (IntKind.wrap .i64 (a0 + x1))), (.int .i64 a1), (.int .i64 a2), (.int .i64 a3)]))) ++ [some (Blk.mk .fix [(.int .i64 x0), (.int .i64 x1), (.int .i64 x2), (.int .i64 x3), (.bool d)])]) .nil)))))))))
theorem tree24k0 (s q : Value) (n i : Int) (b2 b3 : Nat) (a0 a1 a2 a3 : Int) (x0 x1 x2 x3 : Int) (d : Bool) (H : Heap) : pieceT tblB noEnv 100 (fun i => exL i body24_0 || inL [2, 3] i) body24_0 (hn24k0 s q n i b2 b3 a0 a1 a2 a3 x0 x1 x2 x3 d H) (fr 24 [(2, (.pointer (some ⟨b2, 0, none⟩))), (3, (.pointer (some ⟨b3, 0, none⟩))), (6, s), (7, (.int .i64 n)), (8, (.int .i64 i))]) H =
(.req (decide (i < n)) (.claim (opA (Plain.env tblB noEnv) (.iadr 5 none (.const s) (.const (.int .i64 i))) [] H = some (q, H))
 (.claim (opA (Plain.env tblB noEnv) (.load (.const q) (some 5)) [] H = some ((.agg ⟨[(.int .i64 x0), (.int .i64 x1), (.int .i64 x2), (.int .i64 x3), (.bool d)]⟩), H))
 (.claim (opA (Plain.env tblB noEnv) (.store (.const (.pointer (some ⟨(H).length, 0, none⟩))) (.const (.agg ⟨[(.int .i64 x0), (.int .i64 x1), (.int .i64 x2), (.int .i64 x3), (.bool d)]⟩)) 5) [] (H ++ [some (Blk.mk .fix [(.int .i64 0), (.int .i64 0), (.int .i64 0), (.int .i64 0), (.bool false)])]) = some ((.tuple ⟨[]⟩), (H ++ [some (Blk.mk .fix [(.int .i64 x0), (.int .i64 x1), (.int .i64 x2), (.int .i64 x3), (.bool d)])])))
 (.req true (.claim (opA (Plain.env tblB noEnv) (.load (.const (.pointer (some ⟨(H).length, 3, none⟩))) none) [] (H ++ [some (Blk.mk .fix [(.int .i64 x0), (.int .i64 x1), (.int .i64 x2), (.int .i64 x3), (.bool d)])]) = some ((.int .i64 x3), (H ++ [some (Blk.mk .fix [(.int .i64 x0), (.int .i64 x1), (.int .i64 x2), (.int .i64 x3), (.bool d)])])))
 (.claim (opA (Plain.env tblB noEnv) (.call 37 [(.const (.int .i64 x3))]) [] (H ++ [some (Blk.mk .fix [(.int .i64 x0), (.int .i64 x1), (.int .i64 x2), (.int .i64 x3), (.bool d)])]) = some ((.int .i64 0), (H ++ [some (Blk.mk .fix [(.int .i64 x0), (.int .i64 x1), (.int .i64 x2), (.int .i64 x3), (.bool d)])])))
 (.claim (opA (Plain.env tblB noEnv) (.load (.const (.pointer (some ⟨b3, 0, none⟩))) none) [] (H ++ [some (Blk.mk .fix [(.int .i64 x0), (.int .i64 x1), (.int .i64 x2), (.int .i64 x3), (.bool d)])]) = some ((.int .i64 a0), (H ++ [some (Blk.mk .fix [(.int .i64 x0), (.int .i64 x1), (.int .i64 x2), (.int .i64 x3), (.bool d)])])))
 (.claim (opA (Plain.env tblB noEnv) (.load (.const (.pointer (some ⟨(H).length, 1, none⟩))) none) [] (H ++ [some (Blk.mk .fix [(.int .i64 x0), (.int .i64 x1), (.int .i64 x2), (.int .i64 x3), (.bool d)])]) = some ((.int .i64 x1), (H ++ [some (Blk.mk .fix [(.int .i64 x0), (.int .i64 x1), (.int .i64 x2), (.int .i64 x3), (.bool d)])])))
 (.claim (opA (Plain.env tblB noEnv) (.store (.const (.pointer (some ⟨b3, 0, none⟩))) (.const (.int .i64 (IntKind.wrap .i64 (a0 + x1)))) 1) [] (H ++ [some (Blk.mk .fix [(.int .i64 x0), (.int .i64 x1), (.int .i64 x2), (.int .i64 x3), (.bool d)])]) = some ((.tuple ⟨[]⟩), ((H.set b3 (some (Blk.mk .fix [(.int .i64 (IntKind.wrap .i64 (a0 + x1))), (.int .i64 a1), (.int .i64 a2), (.int .i64 a3)]))) ++ [some (Blk.mk .fix [(.int .i64 x0), (.int .i64 x1), (.int .i64 x2), (.int .i64 x3), (.bool d)])])))
 (.ret (pk .normal (fr 24 [(2, (.pointer (some ⟨b2, 0, none⟩))), (3, (.pointer (some ⟨b3, 0, none⟩))), (6, s), (7, (.int .i64 n)), (8, (.int .i64 (IntKind.wrap .i64 (i + 1))))])) ((H.set b3 (some (Blk.mk .fix [(.int .i64 (IntKind.wrap .i64 (a0 + x1))), (.int .i64 a1), (.int .i64 a2), (.int .i64 a3)]))) ++ [some (Blk.mk .fix [(.int .i64 x0), (.int .i64 x1), (.int .i64 x2), (.int .i64 x3), (.bool d)])])))))))))))) := by kernel_rfl
def hn24k1 (s q : Value) (n i : Int) (b2 b3 : Nat) (a0 a1 a2 a3 : Int) (x0 x1 x2 x3 : Int) (d : Bool) (H : Heap) : Hj := (.yes (.use 10 q H (.use 11 (.agg ⟨[(.int .i64 x0), (.int .i64 x1), (.int .i64 x2), (.int .i64 x3), (.bool d)]⟩) H (.use 9999 (.tuple ⟨[]⟩) (H ++ [some (Blk.mk .fix [(.int .i64 x0), (.int .i64 x1), (.int .i64 x2), (.int .i64 x3), (.bool d)])]) (.use 13 (.int .i64 x3) (H ++ [some (Blk.mk .fix [(.int .i64 x0), (.int .i64 x1), (.int .i64 x2), (.int .i64 x3), (.bool d)])]) (.use 14 (.int .i64 1) (H ++ [some (Blk.mk .fix [(.int .i64 x0), (.int .i64 x1), (.int .i64 x2), (.int .i64 x3), (.bool d)])]) (.use 16 (.int .i64 a1) (H ++ [some (Blk.mk .fix [(.int .i64 x0), (.int .i64 x1), (.int .i64 x2), (.int .i64 x3), (.bool d)])]) (.use 19 (.int .i64 x1) (H ++ [some (Blk.mk .fix [(.int .i64 x0), (.int .i64 x1), (.int .i64 x2), (.int .i64 x3), (.bool d)])]) (.use 9999 (.tuple ⟨[]⟩) ((H.set b3 (some (Blk.mk .fix [(.int .i64 a0), (.int .i64 (IntKind.wrap .i64 (a1 + x1))), (.int .i64 a2), (.int .i64 a3)]))) ++ [some (Blk.mk .fix [(.int .i64 x0), (.int .i64 x1), (.int .i64 x2), (.int .i64 x3), (.bool d)])]) .nil)))))))))
theorem tree24k1 (s q : Value) (n i : Int) (b2 b3 : Nat) (a0 a1 a2 a3 : Int) (x0 x1 x2 x3 : Int) (d : Bool) (H : Heap) : pieceT tblB noEnv 100 (fun i => exL i body24_0 || inL [2, 3] i) body24_0 (hn24k1 s q n i b2 b3 a0 a1 a2 a3 x0 x1 x2 x3 d H) (fr 24 [(2, (.pointer (some ⟨b2, 0, none⟩))), (3, (.pointer (some ⟨b3, 0, none⟩))), (6, s), (7, (.int .i64 n)), (8, (.int .i64 i))]) H =
(.req (decide (i < n)) (.claim (opA (Plain.env tblB noEnv) (.iadr 5 none (.const s) (.const (.int .i64 i))) [] H = some (q, H))
 (.claim (opA (Plain.env tblB noEnv) (.load (.const q) (some 5)) [] H = some ((.agg ⟨[(.int .i64 x0), (.int .i64 x1), (.int .i64 x2), (.int .i64 x3), (.bool d)]⟩), H))
 (.claim (opA (Plain.env tblB noEnv) (.store (.const (.pointer (some ⟨(H).length, 0, none⟩))) (.const (.agg ⟨[(.int .i64 x0), (.int .i64 x1), (.int .i64 x2), (.int .i64 x3), (.bool d)]⟩)) 5) [] (H ++ [some (Blk.mk .fix [(.int .i64 0), (.int .i64 0), (.int .i64 0), (.int .i64 0), (.bool false)])]) = some ((.tuple ⟨[]⟩), (H ++ [some (Blk.mk .fix [(.int .i64 x0), (.int .i64 x1), (.int .i64 x2), (.int .i64 x3), (.bool d)])])))
 (.req true (.claim (opA (Plain.env tblB noEnv) (.load (.const (.pointer (some ⟨(H).length, 3, none⟩))) none) [] (H ++ [some (Blk.mk .fix [(.int .i64 x0), (.int .i64 x1), (.int .i64 x2), (.int .i64 x3), (.bool d)])]) = some ((.int .i64 x3), (H ++ [some (Blk.mk .fix [(.int .i64 x0), (.int .i64 x1), (.int .i64 x2), (.int .i64 x3), (.bool d)])])))
 (.claim (opA (Plain.env tblB noEnv) (.call 37 [(.const (.int .i64 x3))]) [] (H ++ [some (Blk.mk .fix [(.int .i64 x0), (.int .i64 x1), (.int .i64 x2), (.int .i64 x3), (.bool d)])]) = some ((.int .i64 1), (H ++ [some (Blk.mk .fix [(.int .i64 x0), (.int .i64 x1), (.int .i64 x2), (.int .i64 x3), (.bool d)])])))
 (.claim (opA (Plain.env tblB noEnv) (.load (.const (.pointer (some ⟨b3, 1, none⟩))) none) [] (H ++ [some (Blk.mk .fix [(.int .i64 x0), (.int .i64 x1), (.int .i64 x2), (.int .i64 x3), (.bool d)])]) = some ((.int .i64 a1), (H ++ [some (Blk.mk .fix [(.int .i64 x0), (.int .i64 x1), (.int .i64 x2), (.int .i64 x3), (.bool d)])])))
 (.claim (opA (Plain.env tblB noEnv) (.load (.const (.pointer (some ⟨(H).length, 1, none⟩))) none) [] (H ++ [some (Blk.mk .fix [(.int .i64 x0), (.int .i64 x1), (.int .i64 x2), (.int .i64 x3), (.bool d)])]) = some ((.int .i64 x1), (H ++ [some (Blk.mk .fix [(.int .i64 x0), (.int .i64 x1), (.int .i64 x2), (.int .i64 x3), (.bool d)])])))
 (.claim (opA (Plain.env tblB noEnv) (.store (.const (.pointer (some ⟨b3, 1, none⟩))) (.const (.int .i64 (IntKind.wrap .i64 (a1 + x1)))) 1) [] (H ++ [some (Blk.mk .fix [(.int .i64 x0), (.int .i64 x1), (.int .i64 x2), (.int .i64 x3), (.bool d)])]) = some ((.tuple ⟨[]⟩), ((H.set b3 (some (Blk.mk .fix [(.int .i64 a0), (.int .i64 (IntKind.wrap .i64 (a1 + x1))), (.int .i64 a2), (.int .i64 a3)]))) ++ [some (Blk.mk .fix [(.int .i64 x0), (.int .i64 x1), (.int .i64 x2), (.int .i64 x3), (.bool d)])])))
 (.ret (pk .normal (fr 24 [(2, (.pointer (some ⟨b2, 0, none⟩))), (3, (.pointer (some ⟨b3, 0, none⟩))), (6, s), (7, (.int .i64 n)), (8, (.int .i64 (IntKind.wrap .i64 (i + 1))))])) ((H.set b3 (some (Blk.mk .fix [(.int .i64 a0), (.int .i64 (IntKind.wrap .i64 (a1 + x1))), (.int .i64 a2), (.int .i64 a3)]))) ++ [some (Blk.mk .fix [(.int .i64 x0), (.int .i64 x1), (.int .i64 x2), (.int .i64 x3), (.bool d)])])))))))))))) := by kernel_rfl
def hn24k2 (s q : Value) (n i : Int) (b2 b3 : Nat) (a0 a1 a2 a3 : Int) (x0 x1 x2 x3 : Int) (d : Bool) (H : Heap) : Hj := (.yes (.use 10 q H (.use 11 (.agg ⟨[(.int .i64 x0), (.int .i64 x1), (.int .i64 x2), (.int .i64 x3), (.bool d)]⟩) H (.use 9999 (.tuple ⟨[]⟩) (H ++ [some (Blk.mk .fix [(.int .i64 x0), (.int .i64 x1), (.int .i64 x2), (.int .i64 x3), (.bool d)])]) (.use 13 (.int .i64 x3) (H ++ [some (Blk.mk .fix [(.int .i64 x0), (.int .i64 x1), (.int .i64 x2), (.int .i64 x3), (.bool d)])]) (.use 14 (.int .i64 2) (H ++ [some (Blk.mk .fix [(.int .i64 x0), (.int .i64 x1), (.int .i64 x2), (.int .i64 x3), (.bool d)])]) (.use 16 (.int .i64 a2) (H ++ [some (Blk.mk .fix [(.int .i64 x0), (.int .i64 x1), (.int .i64 x2), (.int .i64 x3), (.bool d)])]) (.use 19 (.int .i64 x1) (H ++ [some (Blk.mk .fix [(.int .i64 x0), (.int .i64 x1), (.int .i64 x2), (.int .i64 x3), (.bool d)])]) (.use 9999 (.tuple ⟨[]⟩) ((H.set b3 (some (Blk.mk .fix [(.int .i64 a0), (.int .i64 a1), (.int .i64 (IntKind.wrap .i64 (a2 + x1))), (.int .i64 a3)]))) ++ [some (Blk.mk .fix [(.int .i64 x0), (.int .i64 x1), (.int .i64 x2), (.int .i64 x3), (.bool d)])]) .nil)))))))))
theorem tree24k2 (s q : Value) (n i : Int) (b2 b3 : Nat) (a0 a1 a2 a3 : Int) (x0 x1 x2 x3 : Int) (d : Bool) (H : Heap) : pieceT tblB noEnv 100 (fun i => exL i body24_0 || inL [2, 3] i) body24_0 (hn24k2 s q n i b2 b3 a0 a1 a2 a3 x0 x1 x2 x3 d H) (fr 24 [(2, (.pointer (some ⟨b2, 0, none⟩))), (3, (.pointer (some ⟨b3, 0, none⟩))), (6, s), (7, (.int .i64 n)), (8, (.int .i64 i))]) H =
(.req (decide (i < n)) (.claim (opA (Plain.env tblB noEnv) (.iadr 5 none (.const s) (.const (.int .i64 i))) [] H = some (q, H))
 (.claim (opA (Plain.env tblB noEnv) (.load (.const q) (some 5)) [] H = some ((.agg ⟨[(.int .i64 x0), (.int .i64 x1), (.int .i64 x2), (.int .i64 x3), (.bool d)]⟩), H))
 (.claim (opA (Plain.env tblB noEnv) (.store (.const (.pointer (some ⟨(H).length, 0, none⟩))) (.const (.agg ⟨[(.int .i64 x0), (.int .i64 x1), (.int .i64 x2), (.int .i64 x3), (.bool d)]⟩)) 5) [] (H ++ [some (Blk.mk .fix [(.int .i64 0), (.int .i64 0), (.int .i64 0), (.int .i64 0), (.bool false)])]) = some ((.tuple ⟨[]⟩), (H ++ [some (Blk.mk .fix [(.int .i64 x0), (.int .i64 x1), (.int .i64 x2), (.int .i64 x3), (.bool d)])])))
 (.req true (.claim (opA (Plain.env tblB noEnv) (.load (.const (.pointer (some ⟨(H).length, 3, none⟩))) none) [] (H ++ [some (Blk.mk .fix [(.int .i64 x0), (.int .i64 x1), (.int .i64 x2), (.int .i64 x3), (.bool d)])]) = some ((.int .i64 x3), (H ++ [some (Blk.mk .fix [(.int .i64 x0), (.int .i64 x1), (.int .i64 x2), (.int .i64 x3), (.bool d)])])))
 (.claim (opA (Plain.env tblB noEnv) (.call 37 [(.const (.int .i64 x3))]) [] (H ++ [some (Blk.mk .fix [(.int .i64 x0), (.int .i64 x1), (.int .i64 x2), (.int .i64 x3), (.bool d)])]) = some ((.int .i64 2), (H ++ [some (Blk.mk .fix [(.int .i64 x0), (.int .i64 x1), (.int .i64 x2), (.int .i64 x3), (.bool d)])])))
 (.claim (opA (Plain.env tblB noEnv) (.load (.const (.pointer (some ⟨b3, 2, none⟩))) none) [] (H ++ [some (Blk.mk .fix [(.int .i64 x0), (.int .i64 x1), (.int .i64 x2), (.int .i64 x3), (.bool d)])]) = some ((.int .i64 a2), (H ++ [some (Blk.mk .fix [(.int .i64 x0), (.int .i64 x1), (.int .i64 x2), (.int .i64 x3), (.bool d)])])))
 (.claim (opA (Plain.env tblB noEnv) (.load (.const (.pointer (some ⟨(H).length, 1, none⟩))) none) [] (H ++ [some (Blk.mk .fix [(.int .i64 x0), (.int .i64 x1), (.int .i64 x2), (.int .i64 x3), (.bool d)])]) = some ((.int .i64 x1), (H ++ [some (Blk.mk .fix [(.int .i64 x0), (.int .i64 x1), (.int .i64 x2), (.int .i64 x3), (.bool d)])])))
 (.claim (opA (Plain.env tblB noEnv) (.store (.const (.pointer (some ⟨b3, 2, none⟩))) (.const (.int .i64 (IntKind.wrap .i64 (a2 + x1)))) 1) [] (H ++ [some (Blk.mk .fix [(.int .i64 x0), (.int .i64 x1), (.int .i64 x2), (.int .i64 x3), (.bool d)])]) = some ((.tuple ⟨[]⟩), ((H.set b3 (some (Blk.mk .fix [(.int .i64 a0), (.int .i64 a1), (.int .i64 (IntKind.wrap .i64 (a2 + x1))), (.int .i64 a3)]))) ++ [some (Blk.mk .fix [(.int .i64 x0), (.int .i64 x1), (.int .i64 x2), (.int .i64 x3), (.bool d)])])))
 (.ret (pk .normal (fr 24 [(2, (.pointer (some ⟨b2, 0, none⟩))), (3, (.pointer (some ⟨b3, 0, none⟩))), (6, s), (7, (.int .i64 n)), (8, (.int .i64 (IntKind.wrap .i64 (i + 1))))])) ((H.set b3 (some (Blk.mk .fix [(.int .i64 a0), (.int .i64 a1), (.int .i64 (IntKind.wrap .i64 (a2 + x1))), (.int .i64 a3)]))) ++ [some (Blk.mk .fix [(.int .i64 x0), (.int .i64 x1), (.int .i64 x2), (.int .i64 x3), (.bool d)])])))))))))))) := by kernel_rfl
def hn24k3 (s q : Value) (n i : Int) (b2 b3 : Nat) (a0 a1 a2 a3 : Int) (x0 x1 x2 x3 : Int) (d : Bool) (H : Heap) : Hj := (.yes (.use 10 q H (.use 11 (.agg ⟨[(.int .i64 x0), (.int .i64 x1), (.int .i64 x2), (.int .i64 x3), (.bool d)]⟩) H (.use 9999 (.tuple ⟨[]⟩) (H ++ [some (Blk.mk .fix [(.int .i64 x0), (.int .i64 x1), (.int .i64 x2), (.int .i64 x3), (.bool d)])]) (.use 13 (.int .i64 x3) (H ++ [some (Blk.mk .fix [(.int .i64 x0), (.int .i64 x1), (.int .i64 x2), (.int .i64 x3), (.bool d)])]) (.use 14 (.int .i64 3) (H ++ [some (Blk.mk .fix [(.int .i64 x0), (.int .i64 x1), (.int .i64 x2), (.int .i64 x3), (.bool d)])]) (.use 16 (.int .i64 a3) (H ++ [some (Blk.mk .fix [(.int .i64 x0), (.int .i64 x1), (.int .i64 x2), (.int .i64 x3), (.bool d)])]) (.use 19 (.int .i64 x1) (H ++ [some (Blk.mk .fix [(.int .i64 x0), (.int .i64 x1), (.int .i64 x2), (.int .i64 x3), (.bool d)])]) (.use 9999 (.tuple ⟨[]⟩) ((H.set b3 (some (Blk.mk .fix [(.int .i64 a0), (.int .i64 a1), (.int .i64 a2), (.int .i64 (IntKind.wrap .i64 (a3 + x1)))]))) ++ [some (Blk.mk .fix [(.int .i64 x0), (.int .i64 x1), (.int .i64 x2), (.int .i64 x3), (.bool d)])]) .nil)))))))))
theorem tree24k3 (s q : Value) (n i : Int) (b2 b3 : Nat) (a0 a1 a2 a3 : Int) (x0 x1 x2 x3 : Int) (d : Bool) (H : Heap) : pieceT tblB noEnv 100 (fun i => exL i body24_0 || inL [2, 3] i) body24_0 (hn24k3 s q n i b2 b3 a0 a1 a2 a3 x0 x1 x2 x3 d H) (fr 24 [(2, (.pointer (some ⟨b2, 0, none⟩))), (3, (.pointer (some ⟨b3, 0, none⟩))), (6, s), (7, (.int .i64 n)), (8, (.int .i64 i))]) H =
(.req (decide (i < n)) (.claim (opA (Plain.env tblB noEnv) (.iadr 5 none (.const s) (.const (.int .i64 i))) [] H = some (q, H))
 (.claim (opA (Plain.env tblB noEnv) (.load (.const q) (some 5)) [] H = some ((.agg ⟨[(.int .i64 x0), (.int .i64 x1), (.int .i64 x2), (.int .i64 x3), (.bool d)]⟩), H))
 (.claim (opA (Plain.env tblB noEnv) (.store (.const (.pointer (some ⟨(H).length, 0, none⟩))) (.const (.agg ⟨[(.int .i64 x0), (.int .i64 x1), (.int .i64 x2), (.int .i64 x3), (.bool d)]⟩)) 5) [] (H ++ [some (Blk.mk .fix [(.int .i64 0), (.int .i64 0), (.int .i64 0), (.int .i64 0), (.bool false)])]) = some ((.tuple ⟨[]⟩), (H ++ [some (Blk.mk .fix [(.int .i64 x0), (.int .i64 x1), (.int .i64 x2), (.int .i64 x3), (.bool d)])])))
 (.req true (.claim (opA (Plain.env tblB noEnv) (.load (.const (.pointer (some ⟨(H).length, 3, none⟩))) none) [] (H ++ [some (Blk.mk .fix [(.int .i64 x0), (.int .i64 x1), (.int .i64 x2), (.int .i64 x3), (.bool d)])]) = some ((.int .i64 x3), (H ++ [some (Blk.mk .fix [(.int .i64 x0), (.int .i64 x1), (.int .i64 x2), (.int .i64 x3), (.bool d)])])))
 (.claim (opA (Plain.env tblB noEnv) (.call 37 [(.const (.int .i64 x3))]) [] (H ++ [some (Blk.mk .fix [(.int .i64 x0), (.int .i64 x1), (.int .i64 x2), (.int .i64 x3), (.bool d)])]) = some ((.int .i64 3), (H ++ [some (Blk.mk .fix [(.int .i64 x0), (.int .i64 x1), (.int .i64 x2), (.int .i64 x3), (.bool d)])])))
 (.claim (opA (Plain.env tblB noEnv) (.load (.const (.pointer (some ⟨b3, 3, none⟩))) none) [] (H ++ [some (Blk.mk .fix [(.int .i64 x0), (.int .i64 x1), (.int .i64 x2), (.int .i64 x3), (.bool d)])]) = some ((.int .i64 a3), (H ++ [some (Blk.mk .fix [(.int .i64 x0), (.int .i64 x1), (.int .i64 x2), (.int .i64 x3), (.bool d)])])))
 (.claim (opA (Plain.env tblB noEnv) (.load (.const (.pointer (some ⟨(H).length, 1, none⟩))) none) [] (H ++ [some (Blk.mk .fix [(.int .i64 x0), (.int .i64 x1), (.int .i64 x2), (.int .i64 x3), (.bool d)])]) = some ((.int .i64 x1), (H ++ [some (Blk.mk .fix [(.int .i64 x0), (.int .i64 x1), (.int .i64 x2), (.int .i64 x3), (.bool d)])])))
 (.claim (opA (Plain.env tblB noEnv) (.store (.const (.pointer (some ⟨b3, 3, none⟩))) (.const (.int .i64 (IntKind.wrap .i64 (a3 + x1)))) 1) [] (H ++ [some (Blk.mk .fix [(.int .i64 x0), (.int .i64 x1), (.int .i64 x2), (.int .i64 x3), (.bool d)])]) = some ((.tuple ⟨[]⟩), ((H.set b3 (some (Blk.mk .fix [(.int .i64 a0), (.int .i64 a1), (.int .i64 a2), (.int .i64 (IntKind.wrap .i64 (a3 + x1)))]))) ++ [some (Blk.mk .fix [(.int .i64 x0), (.int .i64 x1), (.int .i64 x2), (.int .i64 x3), (.bool d)])])))
 (.ret (pk .normal (fr 24 [(2, (.pointer (some ⟨b2, 0, none⟩))), (3, (.pointer (some ⟨b3, 0, none⟩))), (6, s), (7, (.int .i64 n)), (8, (.int .i64 (IntKind.wrap .i64 (i + 1))))])) ((H.set b3 (some (Blk.mk .fix [(.int .i64 a0), (.int .i64 a1), (.int .i64 a2), (.int .i64 (IntKind.wrap .i64 (a3 + x1)))]))) ++ [some (Blk.mk .fix [(.int .i64 x0), (.int .i64 x1), (.int .i64 x2), (.int .i64 x3), (.bool d)])])))))))))))) := by kernel_rfl
def il24a : IL := .seq (.reg [
     ⟨(some 2), none, .alloc [(.int .i64 0), (.int .i64 0), (.int .i64 0), (.int .i64 0)]⟩])
  (.seq (.reg [
     ⟨(some 3), none, .alloc [(.int .i64 0), (.int .i64 0), (.int .i64 0), (.int .i64 0)]⟩])
  (.seq (.seq (.reg [
      ⟨(some 6), none, .mov (.tmp 0)⟩,
      ⟨(some 7), none, .len (.tmp 6)⟩,
      ⟨(some 8), none, .mov (.const (.int .i64 0))⟩])
   (.block 0
     (.loop
       (.seq (.reg [
          ⟨(some 9), none, .bin .lss (.tmp 8) (.tmp 7)⟩])
       (.seq (.ite (.tmp 9)
          (.skip)
          (.exit 0))
       (.seq (.block 1
          (.seq (.reg [
             ⟨(some 10), none, .iadr 5 none (.tmp 6) (.tmp 8)⟩,
             ⟨(some 11), none, .load (.tmp 10) (some 5)⟩,
             ⟨(some 5), none, .alloc [(.int .i64 0), (.int .i64 0), (.int .i64 0), (.int .i64 0), (.bool false)]⟩,
             ⟨none, none, .store (.tmp 5) (.tmp 11) 5⟩])
          (.dreg [
            ⟨(some 12), none, .fadr 3 (.tmp 5)⟩,
            ⟨(some 13), none, .load (.tmp 12) none⟩,
            ⟨(some 14), none, .call 37 [(.tmp 13)]⟩,
            ⟨(some 15), none, .iadr 1 (some 4) (.tmp 3) (.tmp 14)⟩,
            ⟨(some 16), none, .load (.tmp 15) none⟩,
            ⟨(some 17), none, .fadr 0 (.tmp 5)⟩,
            ⟨(some 18), none, .fadr 1 (.tmp 17)⟩,
            ⟨(some 19), none, .load (.tmp 18) none⟩,
            ⟨(some 20), none, .bin .add (.tmp 16) (.tmp 19)⟩,
            ⟨(some 21), none, .iadr 1 (some 4) (.tmp 3) (.tmp 14)⟩,
            ⟨none, none, .store (.tmp 21) (.tmp 20) 1⟩] [])))
       (.reg [
         ⟨(some 22), none, .bin .add (.tmp 8) (.const (.int .i64 1))⟩,
         ⟨(some 8), none, .mov (.tmp 22)⟩])))))))
  (.seq (.reg [
     ⟨(some 23), none, .load (.tmp 3) (some 4)⟩,
     ⟨none, none, .store (.tmp 2) (.tmp 23) 4⟩])
  (.ret))))
def hn24a (s : Value) (n : Int) (a0 a1 a2 a3 : Int) (H H1 : Heap) : Hj := (.use 7 (.int .i64 n) ((H ++ [some (Blk.mk .fix [(.int .i64 0), (.int .i64 0), (.int .i64 0), (.int .i64 0)])]) ++ [some (Blk.mk .fix [(.int .i64 0), (.int .i64 0), (.int .i64 0), (.int .i64 0)])]) (.lp 0 [2, 3] (fr 24 [(2, (.pointer (some ⟨(H).length, 0, none⟩))), (3, (.pointer (some ⟨((H ++ [some (Blk.mk .fix [(.int .i64 0), (.int .i64 0), (.int .i64 0), (.int .i64 0)])])).length, 0, none⟩)))]) H1 (.use 23 (.agg ⟨[(.int .i64 a0), (.int .i64 a1), (.int .i64 a2), (.int .i64 a3)]⟩) H1 (.use 9999 (.tuple ⟨[]⟩) (H1.set (H).length (some (Blk.mk .fix [(.int .i64 a0), (.int .i64 a1), (.int .i64 a2), (.int .i64 a3)]))) .nil))))
theorem tree24a (s : Value) (n : Int) (a0 a1 a2 a3 : Int) (H H1 : Heap) : pieceT tblB noEnv 100 (resLv [.cell 2 (some 4)]) il24a (hn24a s n a0 a1 a2 a3 H H1) (fr 24 [(0, s)]) H =
(.claim (opA (Plain.env tblB noEnv) (.len (.const s)) [] ((H ++ [some (Blk.mk .fix [(.int .i64 0), (.int .i64 0), (.int .i64 0), (.int .i64 0)])]) ++ [some (Blk.mk .fix [(.int .i64 0), (.int .i64 0), (.int .i64 0), (.int .i64 0)])]) = some ((.int .i64 n), ((H ++ [some (Blk.mk .fix [(.int .i64 0), (.int .i64 0), (.int .i64 0), (.int .i64 0)])]) ++ [some (Blk.mk .fix [(.int .i64 0), (.int .i64 0), (.int .i64 0), (.int .i64 0)])])))
 (.claim (Wp (Plain.env tblB noEnv) (inL [2, 3]) (.block 0 (.loop body24_0)) (fr 24 [(2, (.pointer (some ⟨(H).length, 0, none⟩))), (3, (.pointer (some ⟨((H ++ [some (Blk.mk .fix [(.int .i64 0), (.int .i64 0), (.int .i64 0), (.int .i64 0)])])).length, 0, none⟩))), (6, s), (7, (.int .i64 n)), (8, (.int .i64 0))]) ((H ++ [some (Blk.mk .fix [(.int .i64 0), (.int .i64 0), (.int .i64 0), (.int .i64 0)])]) ++ [some (Blk.mk .fix [(.int .i64 0), (.int .i64 0), (.int .i64 0), (.int .i64 0)])]) fun e s h' => e = .normal ∧ s = (fr 24 [(2, (.pointer (some ⟨(H).length, 0, none⟩))), (3, (.pointer (some ⟨((H ++ [some (Blk.mk .fix [(.int .i64 0), (.int .i64 0), (.int .i64 0), (.int .i64 0)])])).length, 0, none⟩)))]) ∧ h' = H1)
 (.claim (opA (Plain.env tblB noEnv) (.load (.const (.pointer (some ⟨((H ++ [some (Blk.mk .fix [(.int .i64 0), (.int .i64 0), (.int .i64 0), (.int .i64 0)])])).length, 0, none⟩))) (some 4)) [] H1 = some ((.agg ⟨[(.int .i64 a0), (.int .i64 a1), (.int .i64 a2), (.int .i64 a3)]⟩), H1))
 (.claim (opA (Plain.env tblB noEnv) (.store (.const (.pointer (some ⟨(H).length, 0, none⟩))) (.const (.agg ⟨[(.int .i64 a0), (.int .i64 a1), (.int .i64 a2), (.int .i64 a3)]⟩)) 4) [] H1 = some ((.tuple ⟨[]⟩), (H1.set (H).length (some (Blk.mk .fix [(.int .i64 a0), (.int .i64 a1), (.int .i64 a2), (.int .i64 a3)])))))
 (.ret (pk .ret (fr 24 [(2, (.pointer (some ⟨(H).length, 0, none⟩)))])) (H1.set (H).length (some (Blk.mk .fix [(.int .i64 a0), (.int .i64 a1), (.int .i64 a2), (.int .i64 a3)])))))))) := by kernel_rfl
/-- cascade/cascaderef9.Buckets -/
def il26 : FnIL := ⟨50, [.cell 2 (some 4)],
  .seq (.reg [
     ⟨(some 2), none, .alloc [(.int .i64 0), (.int .i64 0), (.int .i64 0), (.int .i64 0)]⟩])
  (.seq (.reg [
     ⟨(some 3), none, .alloc [(.int .i64 0), (.int .i64 0), (.int .i64 0), (.int .i64 0)]⟩])
  (.seq (.seq (.reg [
      ⟨(some 6), none, .mov (.tmp 0)⟩,
      ⟨(some 7), none, .len (.tmp 6)⟩,
      ⟨(some 8), none, .mov (.const (.int .i64 0))⟩])
   (.block 0
     (.loop
       (.seq (.reg [
          ⟨(some 9), none, .bin .lss (.tmp 8) (.tmp 7)⟩])
       (.seq (.ite (.tmp 9)
          (.skip)
          (.exit 0))
       (.seq (.block 1
          (.seq (.reg [
             ⟨(some 10), none, .iadr 5 none (.tmp 6) (.tmp 8)⟩,
             ⟨(some 11), none, .load (.tmp 10) (some 5)⟩,
             ⟨(some 5), none, .alloc [(.int .i64 0), (.int .i64 0), (.int .i64 0), (.int .i64 0), (.bool false)]⟩,
             ⟨none, none, .store (.tmp 5) (.tmp 11) 5⟩])
          (.block 2
            (.seq (.reg [
               ⟨(some 19), none, .fadr 3 (.tmp 5)⟩,
               ⟨(some 20), none, .load (.tmp 19) none⟩,
               ⟨(some 21), none, .bin .eql (.tmp 20) (.const (.int .i64 0))⟩,
               ⟨(some 18), none, .mov (.tmp 21)⟩])
            (.ite (.tmp 18)
              (.reg [
                ⟨(some 22), none, .iadr 1 (some 4) (.tmp 3) (.const (.int .i64 0))⟩,
                ⟨(some 23), none, .load (.tmp 22) none⟩,
                ⟨(some 24), none, .fadr 1 (.tmp 5)⟩,
                ⟨(some 25), none, .load (.tmp 24) none⟩,
                ⟨(some 26), none, .bin .add (.tmp 23) (.tmp 25)⟩,
                ⟨(some 27), none, .iadr 1 (some 4) (.tmp 3) (.const (.int .i64 0))⟩,
                ⟨none, none, .store (.tmp 27) (.tmp 26) 1⟩])
              (.seq (.reg [
                 ⟨(some 29), none, .fadr 3 (.tmp 5)⟩,
                 ⟨(some 30), none, .load (.tmp 29) none⟩,
                 ⟨(some 31), none, .bin .lss (.tmp 30) (.const (.int .i64 3))⟩,
                 ⟨(some 28), none, .mov (.tmp 31)⟩])
              (.ite (.tmp 28)
                (.reg [
                  ⟨(some 32), none, .iadr 1 (some 4) (.tmp 3) (.const (.int .i64 1))⟩,
                  ⟨(some 33), none, .load (.tmp 32) none⟩,
                  ⟨(some 34), none, .fadr 1 (.tmp 5)⟩,
                  ⟨(some 35), none, .load (.tmp 34) none⟩,
                  ⟨(some 36), none, .bin .add (.tmp 33) (.tmp 35)⟩,
                  ⟨(some 37), none, .iadr 1 (some 4) (.tmp 3) (.const (.int .i64 1))⟩,
                  ⟨none, none, .store (.tmp 37) (.tmp 36) 1⟩])
                (.seq (.reg [
                   ⟨(some 39), none, .fadr 3 (.tmp 5)⟩,
                   ⟨(some 40), none, .load (.tmp 39) none⟩,
                   ⟨(some 41), none, .bin .lss (.tmp 40) (.const (.int .i64 6))⟩,
                   ⟨(some 38), none, .mov (.tmp 41)⟩])
                (.ite (.tmp 38)
                  (.reg [
                    ⟨(some 42), none, .iadr 1 (some 4) (.tmp 3) (.const (.int .i64 2))⟩,
                    ⟨(some 43), none, .load (.tmp 42) none⟩,
                    ⟨(some 44), none, .fadr 1 (.tmp 5)⟩,
                    ⟨(some 45), none, .load (.tmp 44) none⟩,
                    ⟨(some 46), none, .bin .add (.tmp 43) (.tmp 45)⟩,
                    ⟨(some 47), none, .iadr 1 (some 4) (.tmp 3) (.const (.int .i64 2))⟩,
                    ⟨none, none, .store (.tmp 47) (.tmp 46) 1⟩])
                  (.reg [
                    ⟨(some 12), none, .iadr 1 (some 4) (.tmp 3) (.const (.int .i64 3))⟩,
                    ⟨(some 13), none, .load (.tmp 12) none⟩,
                    ⟨(some 14), none, .fadr 1 (.tmp 5)⟩,
                    ⟨(some 15), none, .load (.tmp 14) none⟩,
                    ⟨(some 16), none, .bin .add (.tmp 13) (.tmp 15)⟩,
                    ⟨(some 17), none, .iadr 1 (some 4) (.tmp 3) (.const (.int .i64 3))⟩,
                    ⟨none, none, .store (.tmp 17) (.tmp 16) 1⟩]))))))))))
       (.reg [
         ⟨(some 48), none, .bin .add (.tmp 8) (.const (.int .i64 1))⟩,
         ⟨(some 8), none, .mov (.tmp 48)⟩])))))))
  (.seq (.reg [
     ⟨(some 49), none, .load (.tmp 3) (some 4)⟩,
     ⟨none, none, .store (.tmp 2) (.tmp 49) 4⟩])
  (.ret))))⟩
theorem st26 : stF Try.prog qtB 26 = some il26 := by kernel_rfl
def body26_0 : IL := .seq (.reg [
     ⟨(some 9), none, .bin .lss (.tmp 8) (.tmp 7)⟩])
  (.seq (.ite (.tmp 9)
     (.skip)
     (.exit 0))
  (.seq (.block 1
     (.seq (.reg [
        ⟨(some 10), none, .iadr 5 none (.tmp 6) (.tmp 8)⟩,
        ⟨(some 11), none, .load (.tmp 10) (some 5)⟩,
        ⟨(some 5), none, .alloc [(.int .i64 0), (.int .i64 0), (.int .i64 0), (.int .i64 0), (.bool false)]⟩,
        ⟨none, none, .store (.tmp 5) (.tmp 11) 5⟩])
     (.block 2
       (.seq (.reg [
          ⟨(some 19), none, .fadr 3 (.tmp 5)⟩,
          ⟨(some 20), none, .load (.tmp 19) none⟩,
          ⟨(some 21), none, .bin .eql (.tmp 20) (.const (.int .i64 0))⟩,
          ⟨(some 18), none, .mov (.tmp 21)⟩])
       (.ite (.tmp 18)
         (.reg [
           ⟨(some 22), none, .iadr 1 (some 4) (.tmp 3) (.const (.int .i64 0))⟩,
           ⟨(some 23), none, .load (.tmp 22) none⟩,
           ⟨(some 24), none, .fadr 1 (.tmp 5)⟩,
           ⟨(some 25), none, .load (.tmp 24) none⟩,
           ⟨(some 26), none, .bin .add (.tmp 23) (.tmp 25)⟩,
           ⟨(some 27), none, .iadr 1 (some 4) (.tmp 3) (.const (.int .i64 0))⟩,
           ⟨none, none, .store (.tmp 27) (.tmp 26) 1⟩])
         (.seq (.reg [
            ⟨(some 29), none, .fadr 3 (.tmp 5)⟩,
            ⟨(some 30), none, .load (.tmp 29) none⟩,
            ⟨(some 31), none, .bin .lss (.tmp 30) (.const (.int .i64 3))⟩,
            ⟨(some 28), none, .mov (.tmp 31)⟩])
         (.ite (.tmp 28)
           (.reg [
             ⟨(some 32), none, .iadr 1 (some 4) (.tmp 3) (.const (.int .i64 1))⟩,
             ⟨(some 33), none, .load (.tmp 32) none⟩,
             ⟨(some 34), none, .fadr 1 (.tmp 5)⟩,
             ⟨(some 35), none, .load (.tmp 34) none⟩,
             ⟨(some 36), none, .bin .add (.tmp 33) (.tmp 35)⟩,
             ⟨(some 37), none, .iadr 1 (some 4) (.tmp 3) (.const (.int .i64 1))⟩,
             ⟨none, none, .store (.tmp 37) (.tmp 36) 1⟩])
           (.seq (.reg [
              ⟨(some 39), none, .fadr 3 (.tmp 5)⟩,
              ⟨(some 40), none, .load (.tmp 39) none⟩,
              ⟨(some 41), none, .bin .lss (.tmp 40) (.const (.int .i64 6))⟩,
              ⟨(some 38), none, .mov (.tmp 41)⟩])
           (.ite (.tmp 38)
             (.reg [
               ⟨(some 42), none, .iadr 1 (some 4) (.tmp 3) (.const (.int .i64 2))⟩,
               ⟨(some 43), none, .load (.tmp 42) none⟩,
               ⟨(some 44), none, .fadr 1 (.tmp 5)⟩,
               ⟨(some 45), none, .load (.tmp 44) none⟩,
               ⟨(some 46), none, .bin .add (.tmp 43) (.tmp 45)⟩,
               ⟨(some 47), none, .iadr 1 (some 4) (.tmp 3) (.const (.int .i64 2))⟩,
               ⟨none, none, .store (.tmp 47) (.tmp 46) 1⟩])
             (.reg [
               ⟨(some 12), none, .iadr 1 (some 4) (.tmp 3) (.const (.int .i64 3))⟩,
               ⟨(some 13), none, .load (.tmp 12) none⟩,
               ⟨(some 14), none, .fadr 1 (.tmp 5)⟩,
               ⟨(some 15), none, .load (.tmp 14) none⟩,
               ⟨(some 16), none, .bin .add (.tmp 13) (.tmp 15)⟩,
               ⟨(some 17), none, .iadr 1 (some 4) (.tmp 3) (.const (.int .i64 3))⟩,
               ⟨none, none, .store (.tmp 17) (.tmp 16) 1⟩]))))))))))
  (.reg [
    ⟨(some 48), none, .bin .add (.tmp 8) (.const (.int .i64 1))⟩,
    ⟨(some 8), none, .mov (.tmp 48)⟩])))
def hn26x (s : Value) (n i : Int) (b2 b3 : Nat) (H : Heap) : Hj := (.no .nil)
theorem tree26x (s : Value) (n i : Int) (b2 b3 : Nat) (H : Heap) : pieceT tblB noEnv 100 (fun i => exL i body26_0 || inL [2, 3] i) body26_0 (hn26x s n i b2 b3 H) (fr 50 [(2, (.pointer (some ⟨b2, 0, none⟩))), (3, (.pointer (some ⟨b3, 0, none⟩))), (6, s), (7, (.int .i64 n)), (8, (.int .i64 i))]) H =
(.req (!(decide (i < n))) (.ret (pk (.exit 0) (fr 50 [(2, (.pointer (some ⟨b2, 0, none⟩))), (3, (.pointer (some ⟨b3, 0, none⟩))), (6, s), (7, (.int .i64 n)), (8, (.int .i64 i))])) H)) := by kernel_rfl
def hn26k0 (s q : Value) (n i : Int) (b2 b3 : Nat) (a0 a1 a2 a3 : Int) (x0 x1 x2 x3 : Int) (d : Bool) (H : Heap) : Hj := (.yes (.use 10 q H (.use 11 (.agg ⟨[(.int .i64 x0), (.int .i64 x1), (.int .i64 x2), (.int .i64 x3), (.bool d)]⟩) H (.use 9999 (.tuple ⟨[]⟩) (H ++ [some (Blk.mk .fix [(.int .i64 x0), (.int .i64 x1), (.int .i64 x2), (.int .i64 x3), (.bool d)])]) (.use 20 (.int .i64 x3) (H ++ [some (Blk.mk .fix [(.int .i64 x0), (.int .i64 x1), (.int .i64 x2), (.int .i64 x3), (.bool d)])]) (.yes (.use 23 (.int .i64 a0) (H ++ [some (Blk.mk .fix [(.int .i64 x0), (.int .i64 x1), (.int .i64 x2), (.int .i64 x3), (.bool d)])]) (.use 25 (.int .i64 x1) (H ++ [some (Blk.mk .fix [(.int .i64 x0), (.int .i64 x1), (.int .i64 x2), (.int .i64 x3), (.bool d)])]) (.use 9999 (.tuple ⟨[]⟩) ((H.set b3 (some (Blk.mk .fix [(.int .i64 (IntKind.wrap .i64 (a0 + x1))), (.int .i64 a1), (.int .i64 a2), (.int .i64 a3)]))) ++ [some (Blk.mk .fix [(.int .i64 x0), (.int .i64 x1), (.int .i64 x2), (.int .i64 x3), (.bool d)])]) .nil)))))))))
theorem tree26k0 (s q : Value) (n i : Int) (b2 b3 : Nat) (a0 a1 a2 a3 : Int) (x0 x1 x2 x3 : Int) (d : Bool) (H : Heap) : pieceT tblB noEnv 100 (fun i => exL i body26_0 || inL [2, 3] i) body26_0 (hn26k0 s q n i b2 b3 a0 a1 a2 a3 x0 x1 x2 x3 d H) (fr 50 [(2, (.pointer (some ⟨b2, 0, none⟩))), (3, (.pointer (some ⟨b3, 0, none⟩))), (6, s), (7, (.int .i64 n)), (8, (.int .i64 i))]) H =
(.req (decide (i < n)) (.claim (opA (Plain.env tblB noEnv) (.iadr 5 none (.const s) (.const (.int .i64 i))) [] H = some (q, H))
 (.claim (opA (Plain.env tblB noEnv) (.load (.const q) (some 5)) [] H = some ((.agg ⟨[(.int .i64 x0), (.int .i64 x1), (.int .i64 x2), (.int .i64 x3), (.bool d)]⟩), H))
 (.claim (opA (Plain.env tblB noEnv) (.store (.const (.pointer (some ⟨(H).length, 0, none⟩))) (.const (.agg ⟨[(.int .i64 x0), (.int .i64 x1), (.int .i64 x2), (.int .i64 x3), (.bool d)]⟩)) 5) [] (H ++ [some (Blk.mk .fix [(.int .i64 0), (.int .i64 0), (.int .i64 0), (.int .i64 0), (.bool false)])]) = some ((.tuple ⟨[]⟩), (H ++ [some (Blk.mk .fix [(.int .i64 x0), (.int .i64 x1), (.int .i64 x2), (.int .i64 x3), (.bool d)])])))
 (.claim (opA (Plain.env tblB noEnv) (.load (.const (.pointer (some ⟨(H).length, 3, none⟩))) none) [] (H ++ [some (Blk.mk .fix [(.int .i64 x0), (.int .i64 x1), (.int .i64 x2), (.int .i64 x3), (.bool d)])]) = some ((.int .i64 x3), (H ++ [some (Blk.mk .fix [(.int .i64 x0), (.int .i64 x1), (.int .i64 x2), (.int .i64 x3), (.bool d)])])))
 (.req (x3 == 0) (.claim (opA (Plain.env tblB noEnv) (.load (.const (.pointer (some ⟨b3, 0, none⟩))) none) [] (H ++ [some (Blk.mk .fix [(.int .i64 x0), (.int .i64 x1), (.int .i64 x2), (.int .i64 x3), (.bool d)])]) = some ((.int .i64 a0), (H ++ [some (Blk.mk .fix [(.int .i64 x0), (.int .i64 x1), (.int .i64 x2), (.int .i64 x3), (.bool d)])])))
 (.claim (opA (Plain.env tblB noEnv) (.load (.const (.pointer (some ⟨(H).length, 1, none⟩))) none) [] (H ++ [some (Blk.mk .fix [(.int .i64 x0), (.int .i64 x1), (.int .i64 x2), (.int .i64 x3), (.bool d)])]) = some ((.int .i64 x1), (H ++ [some (Blk.mk .fix [(.int .i64 x0), (.int .i64 x1), (.int .i64 x2), (.int .i64 x3), (.bool d)])])))
 (.claim (opA (Plain.env tblB noEnv) (.store (.const (.pointer (some ⟨b3, 0, none⟩))) (.const (.int .i64 (IntKind.wrap .i64 (a0 + x1)))) 1) [] (H ++ [some (Blk.mk .fix [(.int .i64 x0), (.int .i64 x1), (.int .i64 x2), (.int .i64 x3), (.bool d)])]) = some ((.tuple ⟨[]⟩), ((H.set b3 (some (Blk.mk .fix [(.int .i64 (IntKind.wrap .i64 (a0 + x1))), (.int .i64 a1), (.int .i64 a2), (.int .i64 a3)]))) ++ [some (Blk.mk .fix [(.int .i64 x0), (.int .i64 x1), (.int .i64 x2), (.int .i64 x3), (.bool d)])])))
 (.ret (pk .normal (fr 50 [(2, (.pointer (some ⟨b2, 0, none⟩))), (3, (.pointer (some ⟨b3, 0, none⟩))), (6, s), (7, (.int .i64 n)), (8, (.int .i64 (IntKind.wrap .i64 (i + 1))))])) ((H.set b3 (some (Blk.mk .fix [(.int .i64 (IntKind.wrap .i64 (a0 + x1))), (.int .i64 a1), (.int .i64 a2), (.int .i64 a3)]))) ++ [some (Blk.mk .fix [(.int .i64 x0), (.int .i64 x1), (.int .i64 x2), (.int .i64 x3), (.bool d)])]))))))))))) := by kernel_rfl
def hn26k1 (s q : Value) (n i : Int) (b2 b3 : Nat) (a0 a1 a2 a3 : Int) (x0 x1 x2 x3 : Int) (d : Bool) (H : Heap) : Hj := (.yes (.use 10 q H (.use 11 (.agg ⟨[(.int .i64 x0), (.int .i64 x1), (.int .i64 x2), (.int .i64 x3), (.bool d)]⟩) H (.use 9999 (.tuple ⟨[]⟩) (H ++ [some (Blk.mk .fix [(.int .i64 x0), (.int .i64 x1), (.int .i64 x2), (.int .i64 x3), (.bool d)])]) (.use 20 (.int .i64 x3) (H ++ [some (Blk.mk .fix [(.int .i64 x0), (.int .i64 x1), (.int .i64 x2), (.int .i64 x3), (.bool d)])]) (.no (.use 30 (.int .i64 x3) (H ++ [some (Blk.mk .fix [(.int .i64 x0), (.int .i64 x1), (.int .i64 x2), (.int .i64 x3), (.bool d)])]) (.yes (.use 33 (.int .i64 a1) (H ++ [some (Blk.mk .fix [(.int .i64 x0), (.int .i64 x1), (.int .i64 x2), (.int .i64 x3), (.bool d)])]) (.use 35 (.int .i64 x1) (H ++ [some (Blk.mk .fix [(.int .i64 x0), (.int .i64 x1), (.int .i64 x2), (.int .i64 x3), (.bool d)])]) (.use 9999 (.tuple ⟨[]⟩) ((H.set b3 (some (Blk.mk .fix [(.int .i64 a0), (.int .i64 (IntKind.wrap .i64 (a1 + x1))), (.int .i64 a2), (.int .i64 a3)]))) ++ [some (Blk.mk .fix [(.int .i64 x0), (.int .i64 x1), (.int .i64 x2), (.int .i64 x3), (.bool d)])]) .nil)))))))))))
theorem tree26k1 (s q : Value) (n i : Int) (b2 b3 : Nat) (a0 a1 a2 a3 : Int) (x0 x1 x2 x3 : Int) (d : Bool) (H : Heap) : pieceT tblB noEnv 100 (fun i => exL i body26_0 || inL [2, 3] i) body26_0 (hn26k1 s q n i b2 b3 a0 a1 a2 a3 x0 x1 x2 x3 d H) (fr 50 [(2, (.pointer (some ⟨b2, 0, none⟩))), (3, (.pointer (some ⟨b3, 0, none⟩))), (6, s), (7, (.int .i64 n)), (8, (.int .i64 i))]) H =
(.req (decide (i < n)) (.claim (opA (Plain.env tblB noEnv) (.iadr 5 none (.const s) (.const (.int .i64 i))) [] H = some (q, H))
 (.claim (opA (Plain.env tblB noEnv) (.load (.const q) (some 5)) [] H = some ((.agg ⟨[(.int .i64 x0), (.int .i64 x1), (.int .i64 x2), (.int .i64 x3), (.bool d)]⟩), H))
 (.claim (opA (Plain.env tblB noEnv) (.store (.const (.pointer (some ⟨(H).length, 0, none⟩))) (.const (.agg ⟨[(.int .i64 x0), (.int .i64 x1), (.int .i64 x2), (.int .i64 x3), (.bool d)]⟩)) 5) [] (H ++ [some (Blk.mk .fix [(.int .i64 0), (.int .i64 0), (.int .i64 0), (.int .i64 0), (.bool false)])]) = some ((.tuple ⟨[]⟩), (H ++ [some (Blk.mk .fix [(.int .i64 x0), (.int .i64 x1), (.int .i64 x2), (.int .i64 x3), (.bool d)])])))
 (.claim (opA (Plain.env tblB noEnv) (.load (.const (.pointer (some ⟨(H).length, 3, none⟩))) none) [] (H ++ [some (Blk.mk .fix [(.int .i64 x0), (.int .i64 x1), (.int .i64 x2), (.int .i64 x3), (.bool d)])]) = some ((.int .i64 x3), (H ++ [some (Blk.mk .fix [(.int .i64 x0), (.int .i64 x1), (.int .i64 x2), (.int .i64 x3), (.bool d)])])))
 (.req (!(x3 == 0)) (.claim (opA (Plain.env tblB noEnv) (.load (.const (.pointer (some ⟨(H).length, 3, none⟩))) none) [] (H ++ [some (Blk.mk .fix [(.int .i64 x0), (.int .i64 x1), (.int .i64 x2), (.int .i64 x3), (.bool d)])]) = some ((.int .i64 x3), (H ++ [some (Blk.mk .fix [(.int .i64 x0), (.int .i64 x1), (.int .i64 x2), (.int .i64 x3), (.bool d)])])))
 (.req (decide (x3 < 3)) (.claim (opA (Plain.env tblB noEnv) (.load (.const (.pointer (some ⟨b3, 1, none⟩))) none) [] (H ++ [some (Blk.mk .fix [(.int .i64 x0), (.int .i64 x1), (.int .i64 x2), (.int .i64 x3), (.bool d)])]) = some ((.int .i64 a1), (H ++ [some (Blk.mk .fix [(.int .i64 x0), (.int .i64 x1), (.int .i64 x2), (.int .i64 x3), (.bool d)])])))
 (.claim (opA (Plain.env tblB noEnv) (.load (.const (.pointer (some ⟨(H).length, 1, none⟩))) none) [] (H ++ [some (Blk.mk .fix [(.int .i64 x0), (.int .i64 x1), (.int .i64 x2), (.int .i64 x3), (.bool d)])]) = some ((.int .i64 x1), (H ++ [some (Blk.mk .fix [(.int .i64 x0), (.int .i64 x1), (.int .i64 x2), (.int .i64 x3), (.bool d)])])))
 (.claim (opA (Plain.env tblB noEnv) (.store (.const (.pointer (some ⟨b3, 1, none⟩))) (.const (.int .i64 (IntKind.wrap .i64 (a1 + x1)))) 1) [] (H ++ [some (Blk.mk .fix [(.int .i64 x0), (.int .i64 x1), (.int .i64 x2), (.int .i64 x3), (.bool d)])]) = some ((.tuple ⟨[]⟩), ((H.set b3 (some (Blk.mk .fix [(.int .i64 a0), (.int .i64 (IntKind.wrap .i64 (a1 + x1))), (.int .i64 a2), (.int .i64 a3)]))) ++ [some (Blk.mk .fix [(.int .i64 x0), (.int .i64 x1), (.int .i64 x2), (.int .i64 x3), (.bool d)])])))
 (.ret (pk .normal (fr 50 [(2, (.pointer (some ⟨b2, 0, none⟩))), (3, (.pointer (some ⟨b3, 0, none⟩))), (6, s), (7, (.int .i64 n)), (8, (.int .i64 (IntKind.wrap .i64 (i + 1))))])) ((H.set b3 (some (Blk.mk .fix [(.int .i64 a0), (.int .i64 (IntKind.wrap .i64 (a1 + x1))), (.int .i64 a2), (.int .i64 a3)]))) ++ [some (Blk.mk .fix [(.int .i64 x0), (.int .i64 x1), (.int .i64 x2), (.int .i64 x3), (.bool d)])]))))))))))))) := by kernel_rfl
def hn26k2 (s q : Value) (n i : Int) (b2 b3 : Nat) (a0 a1 a2 a3 : Int) (x0 x1 x2 x3 : Int) (d : Bool) (H : Heap) : Hj := (.yes (.use 10 q H (.use 11 (.agg ⟨[(.int .i64 x0), (.int .i64 x1), (.int .i64 x2), (.int .i64 x3), (.bool d)]⟩) H (.use 9999 (.tuple ⟨[]⟩) (H ++ [some (Blk.mk .fix [(.int .i64 x0), (.int .i64 x1), (.int .i64 x2), (.int .i64 x3), (.bool d)])]) (.use 20 (.int .i64 x3) (H ++ [some (Blk.mk .fix [(.int .i64 x0), (.int .i64 x1), (.int .i64 x2), (.int .i64 x3), (.bool d)])]) (.no (.use 30 (.int .i64 x3) (H ++ [some (Blk.mk .fix [(.int .i64 x0), (.int .i64 x1), (.int .i64 x2), (.int .i64 x3), (.bool d)])]) (.no (.use 40 (.int .i64 x3) (H ++ [some (Blk.mk .fix [(.int .i64 x0), (.int .i64 x1), (.int .i64 x2), (.int .i64 x3), (.bool d)])]) (.yes (.use 43 (.int .i64 a2) (H ++ [some (Blk.mk .fix [(.int .i64 x0), (.int .i64 x1), (.int .i64 x2), (.int .i64 x3), (.bool d)])]) (.use 45 (.int .i64 x1) (H ++ [some (Blk.mk .fix [(.int .i64 x0), (.int .i64 x1), (.int .i64 x2), (.int .i64 x3), (.bool d)])]) (.use 9999 (.tuple ⟨[]⟩) ((H.set b3 (some (Blk.mk .fix [(.int .i64 a0), (.int .i64 a1), (.int .i64 (IntKind.wrap .i64 (a2 + x1))), (.int .i64 a3)]))) ++ [some (Blk.mk .fix [(.int .i64 x0), (.int .i64 x1), (.int .i64 x2), (.int .i64 x3), (.bool d)])]) .nil)))))))))))))
theorem tree26k2 (s q : Value) (n i : Int) (b2 b3 : Nat) (a0 a1 a2 a3 : Int) (x0 x1 x2 x3 : Int) (d : Bool) (H : Heap) : pieceT tblB noEnv 100 (fun i => exL i body26_0 || inL [2, 3] i) body26_0 (hn26k2 s q n i b2 b3 a0 a1 a2 a3 x0 x1 x2 x3 d H) (fr 50 [(2, (.pointer (some ⟨b2, 0, none⟩))), (3, (.pointer (some ⟨b3, 0, none⟩))), (6, s), (7, (.int .i64 n)), (8, (.int .i64 i))]) H =
(.req (decide (i < n)) (.claim (opA (Plain.env tblB noEnv) (.iadr 5 none (.const s) (.const (.int .i64 i))) [] H = some (q, H))
 (.claim (opA (Plain.env tblB noEnv) (.load (.const q) (some 5)) [] H = some ((.agg ⟨[(.int .i64 x0), (.int .i64 x1), (.int .i64 x2), (.int .i64 x3), (.bool d)]⟩), H))
 (.claim (opA (Plain.env tblB noEnv) (.store (.const (.pointer (some ⟨(H).length, 0, none⟩))) (.const (.agg ⟨[(.int .i64 x0), (.int .i64 x1), (.int .i64 x2), (.int .i64 x3), (.bool d)]⟩)) 5) [] (H ++ [some (Blk.mk .fix [(.int .i64 0), (.int .i64 0), (.int .i64 0), (.int .i64 0), (.bool false)])]) = some ((.tuple ⟨[]⟩), (H ++ [some (Blk.mk .fix [(.int .i64 x0), (.int .i64 x1), (.int .i64 x2), (.int .i64 x3), (.bool d)])])))
 (.claim (opA (Plain.env tblB noEnv) (.load (.const (.pointer (some ⟨(H).length, 3, none⟩))) none) [] (H ++ [some (Blk.mk .fix [(.int .i64 x0), (.int .i64 x1), (.int .i64 x2), (.int .i64 x3), (.bool d)])]) = some ((.int .i64 x3), (H ++ [some (Blk.mk .fix [(.int .i64 x0), (.int .i64 x1), (.int .i64 x2), (.int .i64 x3), (.bool d)])])))
 (.req (!(x3 == 0)) (.claim (opA (Plain.env tblB noEnv) (.load (.const (.pointer (some ⟨(H).length, 3, none⟩))) none) [] (H ++ [some (Blk.mk .fix [(.int .i64 x0), (.int .i64 x1), (.int .i64 x2), (.int .i64 x3), (.bool d)])]) = some ((.int .i64 x3), (H ++ [some (Blk.mk .fix [(.int .i64 x0), (.int .i64 x1), (.int .i64 x2), (.int .i64 x3), (.bool d)])])))
 (.req (!(decide (x3 < 3))) (.claim (opA (Plain.env tblB noEnv) (.load (.const (.pointer (some ⟨(H).length, 3, none⟩))) none) [] (H ++ [some (Blk.mk .fix [(.int .i64 x0), (.int .i64 x1), (.int .i64 x2), (.int .i64 x3), (.bool d)])]) = some ((.int .i64 x3), (H ++ [some (Blk.mk .fix [(.int .i64 x0), (.int .i64 x1), (.int .i64 x2), (.int .i64 x3), (.bool d)])])))
 (.req (decide (x3 < 6)) (.claim (opA (Plain.env tblB noEnv) (.load (.const (.pointer (some ⟨b3, 2, none⟩))) none) [] (H ++ [some (Blk.mk .fix [(.int .i64 x0), (.int .i64 x1), (.int .i64 x2), (.int .i64 x3), (.bool d)])]) = some ((.int .i64 a2), (H ++ [some (Blk.mk .fix [(.int .i64 x0), (.int .i64 x1), (.int .i64 x2), (.int .i64 x3), (.bool d)])])))
 (.claim (opA (Plain.env tblB noEnv) (.load (.const (.pointer (some ⟨(H).length, 1, none⟩))) none) [] (H ++ [some (Blk.mk .fix [(.int .i64 x0), (.int .i64 x1), (.int .i64 x2), (.int .i64 x3), (.bool d)])]) = some ((.int .i64 x1), (H ++ [some (Blk.mk .fix [(.int .i64 x0), (.int .i64 x1), (.int .i64 x2), (.int .i64 x3), (.bool d)])])))
 (.claim (opA (Plain.env tblB noEnv) (.store (.const (.pointer (some ⟨b3, 2, none⟩))) (.const (.int .i64 (IntKind.wrap .i64 (a2 + x1)))) 1) [] (H ++ [some (Blk.mk .fix [(.int .i64 x0), (.int .i64 x1), (.int .i64 x2), (.int .i64 x3), (.bool d)])]) = some ((.tuple ⟨[]⟩), ((H.set b3 (some (Blk.mk .fix [(.int .i64 a0), (.int .i64 a1), (.int .i64 (IntKind.wrap .i64 (a2 + x1))), (.int .i64 a3)]))) ++ [some (Blk.mk .fix [(.int .i64 x0), (.int .i64 x1), (.int .i64 x2), (.int .i64 x3), (.bool d)])])))
 (.ret (pk .normal (fr 50 [(2, (.pointer (some ⟨b2, 0, none⟩))), (3, (.pointer (some ⟨b3, 0, none⟩))), (6, s), (7, (.int .i64 n)), (8, (.int .i64 (IntKind.wrap .i64 (i + 1))))])) ((H.set b3 (some (Blk.mk .fix [(.int .i64 a0), (.int .i64 a1), (.int .i64 (IntKind.wrap .i64 (a2 + x1))), (.int .i64 a3)]))) ++ [some (Blk.mk .fix [(.int .i64 x0), (.int .i64 x1), (.int .i64 x2), (.int .i64 x3), (.bool d)])]))))))))))))))) := by kernel_rfl
def hn26k3 (s q : Value) (n i : Int) (b2 b3 : Nat) (a0 a1 a2 a3 : Int) (x0 x1 x2 x3 : Int) (d : Bool) (H : Heap) : Hj := (.yes (.use 10 q H (.use 11 (.agg ⟨[(.int .i64 x0), (.int .i64 x1), (.int .i64 x2), (.int .i64 x3), (.bool d)]⟩) H (.use 9999 (.tuple ⟨[]⟩) (H ++ [some (Blk.mk .fix [(.int .i64 x0), (.int .i64 x1), (.int .i64 x2), (.int .i64 x3), (.bool d)])]) (.use 20 (.int .i64 x3) (H ++ [some (Blk.mk .fix [(.int .i64 x0), (.int .i64 x1), (.int .i64 x2), (.int .i64 x3), (.bool d)])]) (.no (.use 30 (.int .i64 x3) (H ++ [some (Blk.mk .fix [(.int .i64 x0), (.int .i64 x1), (.int .i64 x2), (.int .i64 x3), (.bool d)])]) (.no (.use 40 (.int .i64 x3) (H ++ [some (Blk.mk .fix [(.int .i64 x0), (.int .i64 x1), (.int .i64 x2), (.int .i64 x3), (.bool d)])]) (.no (.use 13 (.int .i64 a3) (H ++ [some (Blk.mk .fix [(.int .i64 x0), (.int .i64 x1), (.int .i64 x2), (.int .i64 x3), (.bool d)])]) (.use 15 (.int .i64 x1) (H ++ [some (Blk.mk .fix [(.int .i64 x0), (.int .i64 x1), (.int .i64 x2), (.int .i64 x3), (.bool d)])]) (.use 9999 (.tuple ⟨[]⟩) ((H.set b3 (some (Blk.mk .fix [(.int .i64 a0), (.int .i64 a1), (.int .i64 a2), (.int .i64 (IntKind.wrap .i64 (a3 + x1)))]))) ++ [some (Blk.mk .fix [(.int .i64 x0), (.int .i64 x1), (.int .i64 x2), (.int .i64 x3), (.bool d)])]) .nil)))))))))))))
theorem tree26k3 (s q : Value) (n i : Int) (b2 b3 : Nat) (a0 a1 a2 a3 : Int) (x0 x1 x2 x3 : Int) (d : Bool) (H : Heap) : pieceT tblB noEnv 100 (fun i => exL i body26_0 || inL [2, 3] i) body26_0 (hn26k3 s q n i b2 b3 a0 a1 a2 a3 x0 x1 x2 x3 d H) (fr 50 [(2, (.pointer (some ⟨b2, 0, none⟩))), (3, (.pointer (some ⟨b3, 0, none⟩))), (6, s), (7, (.int .i64 n)), (8, (.int .i64 i))]) H =
(.req (decide (i < n)) (.claim (opA (Plain.env tblB noEnv) (.iadr 5 none (.const s) (.const (.int .i64 i))) [] H = some (q, H))
 (.claim (opA (Plain.env tblB noEnv) (.load (.const q) (some 5)) [] H = some ((.agg ⟨[(.int .i64 x0), (.int .i64 x1), (.int .i64 x2), (.int .i64 x3), (.bool d)]⟩), H))
 (.claim (opA (Plain.env tblB noEnv) (.store (.const (.pointer (some ⟨(H).length, 0, none⟩))) (.const (.agg ⟨[(.int .i64 x0), (.int .i64 x1), (.int .i64 x2), (.int .i64 x3), (.bool d)]⟩)) 5) [] (H ++ [some (Blk.mk .fix [(.int .i64 0), (.int .i64 0), (.int .i64 0), (.int .i64 0), (.bool false)])]) = some ((.tuple ⟨[]⟩), (H ++ [some (Blk.mk .fix [(.int .i64 x0), (.int .i64 x1), (.int .i64 x2), (.int .i64 x3), (.bool d)])])))
 (.claim (opA (Plain.env tblB noEnv) (.load (.const (.pointer (some ⟨(H).length, 3, none⟩))) none) [] (H ++ [some (Blk.mk .fix [(.int .i64 x0), (.int .i64 x1), (.int .i64 x2), (.int .i64 x3), (.bool d)])]) = some ((.int .i64 x3), (H ++ [some (Blk.mk .fix [(.int .i64 x0), (.int .i64 x1), (.int .i64 x2), (.int .i64 x3), (.bool d)])])))
 (.req (!(x3 == 0)) (.claim (opA (Plain.env tblB noEnv) (.load (.const (.pointer (some ⟨(H).length, 3, none⟩))) none) [] (H ++ [some (Blk.mk .fix [(.int .i64 x0), (.int .i64 x1), (.int .i64 x2), (.int .i64 x3), (.bool d)])]) = some ((.int .i64 x3), (H ++ [some (Blk.mk .fix [(.int .i64 x0), (.int .i64 x1), (.int .i64 x2), (.int .i64 x3), (.bool d)])])))
 (.req (!(decide (x3 < 3))) (.claim (opA (Plain.env tblB noEnv) (.load (.const (.pointer (some ⟨(H).length, 3, none⟩))) none) [] (H ++ [some (Blk.mk .fix [(.int .i64 x0), (.int .i64 x1), (.int .i64 x2), (.int .i64 x3), (.bool d)])]) = some ((.int .i64 x3), (H ++ [some (Blk.mk .fix [(.int .i64 x0), (.int .i64 x1), (.int .i64 x2), (.int .i64 x3), (.bool d)])])))
 (.req (!(decide (x3 < 6))) (.claim (opA (Plain.env tblB noEnv) (.load (.const (.pointer (some ⟨b3, 3, none⟩))) none) [] (H ++ [some (Blk.mk .fix [(.int .i64 x0), (.int .i64 x1), (.int .i64 x2), (.int .i64 x3), (.bool d)])]) = some ((.int .i64 a3), (H ++ [some (Blk.mk .fix [(.int .i64 x0), (.int .i64 x1), (.int .i64 x2), (.int .i64 x3), (.bool d)])])))
 (.claim (opA (Plain.env tblB noEnv) (.load (.const (.pointer (some ⟨(H).length, 1, none⟩))) none) [] (H ++ [some (Blk.mk .fix [(.int .i64 x0), (.int .i64 x1), (.int .i64 x2), (.int .i64 x3), (.bool d)])]) = some ((.int .i64 x1), (H ++ [some (Blk.mk .fix [(.int .i64 x0), (.int .i64 x1), (.int .i64 x2), (.int .i64 x3), (.bool d)])])))
 (.claim (opA (Plain.env tblB noEnv) (.store (.const (.pointer (some ⟨b3, 3, none⟩))) (.const (.int .i64 (IntKind.wrap .i64 (a3 + x1)))) 1) [] (H ++ [some (Blk.mk .fix [(.int .i64 x0), (.int .i64 x1), (.int .i64 x2), (.int .i64 x3), (.bool d)])]) = some ((.tuple ⟨[]⟩), ((H.set b3 (some (Blk.mk .fix [(.int .i64 a0), (.int .i64 a1), (.int .i64 a2), (.int .i64 (IntKind.wrap .i64 (a3 + x1)))]))) ++ [some (Blk.mk .fix [(.int .i64 x0), (.int .i64 x1), (.int .i64 x2), (.int .i64 x3), (.bool d)])])))
 (.ret (pk .normal (fr 50 [(2, (.pointer (some ⟨b2, 0, none⟩))), (3, (.pointer (some ⟨b3, 0, none⟩))), (6, s), (7, (.int .i64 n)), (8, (.int .i64 (IntKind.wrap .i64 (i + 1))))])) ((H.set b3 (some (Blk.mk .fix [(.int .i64 a0), (.int .i64 a1), (.int .i64 a2), (.int .i64 (IntKind.wrap .i64 (a3 + x1)))]))) ++ [some (Blk.mk .fix [(.int .i64 x0), (.int .i64 x1), (.int .i64 x2), (.int .i64 x3), (.bool d)])]))))))))))))))) := by kernel_rfl
def il26a : IL := .seq (.reg [
     ⟨(some 2), none, .alloc [(.int .i64 0), (.int .i64 0), (.int .i64 0), (.int .i64 0)]⟩])
  (.seq (.reg [
     ⟨(some 3), none, .alloc [(.int .i64 0), (.int .i64 0), (.int .i64 0), (.int .i64 0)]⟩])
  (.seq (.seq (.reg [
      ⟨(some 6), none, .mov (.tmp 0)⟩,
      ⟨(some 7), none, .len (.tmp 6)⟩,
      ⟨(some 8), none, .mov (.const (.int .i64 0))⟩])
   (.block 0
     (.loop
       (.seq (.reg [
          ⟨(some 9), none, .bin .lss (.tmp 8) (.tmp 7)⟩])
       (.seq (.ite (.tmp 9)
          (.skip)
          (.exit 0))
       (.seq (.block 1
          (.seq (.reg [
             ⟨(some 10), none, .iadr 5 none (.tmp 6) (.tmp 8)⟩,
             ⟨(some 11), none, .load (.tmp 10) (some 5)⟩,
             ⟨(some 5), none, .alloc [(.int .i64 0), (.int .i64 0), (.int .i64 0), (.int .i64 0), (.bool false)]⟩,
             ⟨none, none, .store (.tmp 5) (.tmp 11) 5⟩])
          (.block 2
            (.seq (.reg [
               ⟨(some 19), none, .fadr 3 (.tmp 5)⟩,
               ⟨(some 20), none, .load (.tmp 19) none⟩,
               ⟨(some 21), none, .bin .eql (.tmp 20) (.const (.int .i64 0))⟩,
               ⟨(some 18), none, .mov (.tmp 21)⟩])
            (.ite (.tmp 18)
              (.reg [
                ⟨(some 22), none, .iadr 1 (some 4) (.tmp 3) (.const (.int .i64 0))⟩,
                ⟨(some 23), none, .load (.tmp 22) none⟩,
                ⟨(some 24), none, .fadr 1 (.tmp 5)⟩,
                ⟨(some 25), none, .load (.tmp 24) none⟩,
                ⟨(some 26), none, .bin .add (.tmp 23) (.tmp 25)⟩,
                ⟨(some 27), none, .iadr 1 (some 4) (.tmp 3) (.const (.int .i64 0))⟩,
                ⟨none, none, .store (.tmp 27) (.tmp 26) 1⟩])
              (.seq (.reg [
                 ⟨(some 29), none, .fadr 3 (.tmp 5)⟩,
                 ⟨(some 30), none, .load (.tmp 29) none⟩,
                 ⟨(some 31), none, .bin .lss (.tmp 30) (.const (.int .i64 3))⟩,
                 ⟨(some 28), none, .mov (.tmp 31)⟩])
              (.ite (.tmp 28)
                (.reg [
                  ⟨(some 32), none, .iadr 1 (some 4) (.tmp 3) (.const (.int .i64 1))⟩,
                  ⟨(some 33), none, .load (.tmp 32) none⟩,
                  ⟨(some 34), none, .fadr 1 (.tmp 5)⟩,
                  ⟨(some 35), none, .load (.tmp 34) none⟩,
                  ⟨(some 36), none, .bin .add (.tmp 33) (.tmp 35)⟩,
                  ⟨(some 37), none, .iadr 1 (some 4) (.tmp 3) (.const (.int .i64 1))⟩,
                  ⟨none, none, .store (.tmp 37) (.tmp 36) 1⟩])
                (.seq (.reg [
                   ⟨(some 39), none, .fadr 3 (.tmp 5)⟩,
                   ⟨(some 40), none, .load (.tmp 39) none⟩,
                   ⟨(some 41), none, .bin .lss (.tmp 40) (.const (.int .i64 6))⟩,
                   ⟨(some 38), none, .mov (.tmp 41)⟩])
                (.ite (.tmp 38)
                  (.reg [
                    ⟨(some 42), none, .iadr 1 (some 4) (.tmp 3) (.const (.int .i64 2))⟩,
                    ⟨(some 43), none, .load (.tmp 42) none⟩,
                    ⟨(some 44), none, .fadr 1 (.tmp 5)⟩,
                    ⟨(some 45), none, .load (.tmp 44) none⟩,
                    ⟨(some 46), none, .bin .add (.tmp 43) (.tmp 45)⟩,
                    ⟨(some 47), none, .iadr 1 (some 4) (.tmp 3) (.const (.int .i64 2))⟩,
                    ⟨none, none, .store (.tmp 47) (.tmp 46) 1⟩])
                  (.reg [
                    ⟨(some 12), none, .iadr 1 (some 4) (.tmp 3) (.const (.int .i64 3))⟩,
                    ⟨(some 13), none, .load (.tmp 12) none⟩,
                    ⟨(some 14), none, .fadr 1 (.tmp 5)⟩,
                    ⟨(some 15), none, .load (.tmp 14) none⟩,
                    ⟨(some 16), none, .bin .add (.tmp 13) (.tmp 15)⟩,
                    ⟨(some 17), none, .iadr 1 (some 4) (.tmp 3) (.const (.int .i64 3))⟩,
                    ⟨none, none, .store (.tmp 17) (.tmp 16) 1⟩]))))))))))
       (.reg [
         ⟨(some 48), none, .bin .add (.tmp 8) (.const (.int .i64 1))⟩,
         ⟨(some 8), none, .mov (.tmp 48)⟩])))))))
  (.seq (.reg [
     ⟨(some 49), none, .load (.tmp 3) (some 4)⟩,
     ⟨none, none, .store (.tmp 2) (.tmp 49) 4⟩])
  (.ret))))
def hn26a (s : Value) (n : Int) (a0 a1 a2 a3 : Int) (H H1 : Heap) : Hj := (.use 7 (.int .i64 n) ((H ++ [some (Blk.mk .fix [(.int .i64 0), (.int .i64 0), (.int .i64 0), (.int .i64 0)])]) ++ [some (Blk.mk .fix [(.int .i64 0), (.int .i64 0), (.int .i64 0), (.int .i64 0)])]) (.lp 0 [2, 3] (fr 50 [(2, (.pointer (some ⟨(H).length, 0, none⟩))), (3, (.pointer (some ⟨((H ++ [some (Blk.mk .fix [(.int .i64 0), (.int .i64 0), (.int .i64 0), (.int .i64 0)])])).length, 0, none⟩)))]) H1 (.use 49 (.agg ⟨[(.int .i64 a0), (.int .i64 a1), (.int .i64 a2), (.int .i64 a3)]⟩) H1 (.use 9999 (.tuple ⟨[]⟩) (H1.set (H).length (some (Blk.mk .fix [(.int .i64 a0), (.int .i64 a1), (.int .i64 a2), (.int .i64 a3)]))) .nil))))
theorem tree26a (s : Value) (n : Int) (a0 a1 a2 a3 : Int) (H H1 : Heap) : pieceT tblB noEnv 100 (resLv [.cell 2 (some 4)]) il26a (hn26a s n a0 a1 a2 a3 H H1) (fr 50 [(0, s)]) H =
(.claim (opA (Plain.env tblB noEnv) (.len (.const s)) [] ((H ++ [some (Blk.mk .fix [(.int .i64 0), (.int .i64 0), (.int .i64 0), (.int .i64 0)])]) ++ [some (Blk.mk .fix [(.int .i64 0), (.int .i64 0), (.int .i64 0), (.int .i64 0)])]) = some ((.int .i64 n), ((H ++ [some (Blk.mk .fix [(.int .i64 0), (.int .i64 0), (.int .i64 0), (.int .i64 0)])]) ++ [some (Blk.mk .fix [(.int .i64 0), (.int .i64 0), (.int .i64 0), (.int .i64 0)])])))
 (.claim (Wp (Plain.env tblB noEnv) (inL [2, 3]) (.block 0 (.loop body26_0)) (fr 50 [(2, (.pointer (some ⟨(H).length, 0, none⟩))), (3, (.pointer (some ⟨((H ++ [some (Blk.mk .fix [(.int .i64 0), (.int .i64 0), (.int .i64 0), (.int .i64 0)])])).length, 0, none⟩))), (6, s), (7, (.int .i64 n)), (8, (.int .i64 0))]) ((H ++ [some (Blk.mk .fix [(.int .i64 0), (.int .i64 0), (.int .i64 0), (.int .i64 0)])]) ++ [some (Blk.mk .fix [(.int .i64 0), (.int .i64 0), (.int .i64 0), (.int .i64 0)])]) fun e s h' => e = .normal ∧ s = (fr 50 [(2, (.pointer (some ⟨(H).length, 0, none⟩))), (3, (.pointer (some ⟨((H ++ [some (Blk.mk .fix [(.int .i64 0), (.int .i64 0), (.int .i64 0), (.int .i64 0)])])).length, 0, none⟩)))]) ∧ h' = H1)
 (.claim (opA (Plain.env tblB noEnv) (.load (.const (.pointer (some ⟨((H ++ [some (Blk.mk .fix [(.int .i64 0), (.int .i64 0), (.int .i64 0), (.int .i64 0)])])).length, 0, none⟩))) (some 4)) [] H1 = some ((.agg ⟨[(.int .i64 a0), (.int .i64 a1), (.int .i64 a2), (.int .i64 a3)]⟩), H1))
 (.claim (opA (Plain.env tblB noEnv) (.store (.const (.pointer (some ⟨(H).length, 0, none⟩))) (.const (.agg ⟨[(.int .i64 a0), (.int .i64 a1), (.int .i64 a2), (.int .i64 a3)]⟩)) 4) [] H1 = some ((.tuple ⟨[]⟩), (H1.set (H).length (some (Blk.mk .fix [(.int .i64 a0), (.int .i64 a1), (.int .i64 a2), (.int .i64 a3)])))))
 (.ret (pk .ret (fr 50 [(2, (.pointer (some ⟨(H).length, 0, none⟩)))])) (H1.set (H).length (some (Blk.mk .fix [(.int .i64 a0), (.int .i64 a1), (.int .i64 a2), (.int .i64 a3)])))))))) := by kernel_rfl

theorem stW : stF Try.prog qtB 19 = some ilWithin := by kernel_rfl
theorem bk_sim (m : Int) : Sim Try.prog 37 [.int .i64 m] [] fun v _ => v = .int .i64 (bkN m) := by
  refine fnU_sim mixed (T := []) (Γ := noEnv) (Plain.ok .nil noEnv_ok) (Plain.quiet noEnv_quiet) st37 (fuel := 100) (hn := hn37) ?_
  rw [tree37]
  refine ⟨fun h => ?_, fun h => ⟨fun h1 => ?_, fun h1 => ⟨fun h2 => ?_, fun h2 => ?_⟩⟩⟩
  all_goals show Value.int .i64 _ = Value.int .i64 _
  all_goals simp at *
  · simp [bkN, h]
  · have : ¬ m < 1 := by omega
    simp [bkN, this, h1]
  · have : ¬ m < 1 := by omega
    have : ¬ m < 3 := by omega
    simp [bkN, *]
  · have : ¬ m < 1 := by omega
    have : ¬ m < 3 := by omega
    have : ¬ m < 6 := by omega
    simp [bkN, *]
theorem loan_sim (n m : Int) : Sim Try.prog 25 [.int .i64 n, .int .i64 m] [] fun v _ => v = .agg ⟨[.int .i64 0, .int .i64 n, .int .i64 0, .int .i64 m, .bool false]⟩ := by
  refine fnU_sim mixed (T := []) (Γ := noEnv) (Plain.ok .nil noEnv_ok) (Plain.quiet noEnv_quiet) st25 (fuel := 100) (hn := hn25) ?_
  rw [tree25]
  rfl
theorem okB : PlainOk Try.prog tblB := .cons (within_ok mixed stW) <| .cons (fun args v e => by
  unfold sBk at e
  split at e
  · rename_i m
    cases e
    exact ⟨rfl, rfl, bk_sim m⟩
  · cases e) <| .cons (fun args v e => by
  unfold sLoan at e
  split at e
  · rename_i n m
    cases e
    exact ⟨rfl, rfl, loan_sim n m⟩
  · cases e) <| .cons (fun args v e => by
  unfold sTrue at e
  split at e
  · cases e
    exact ⟨rfl, rfl, ClLateRuns.sim.mono fun v h q => q.1⟩
  · cases e) .nil
structure InB (h0 : Heap) (b2 b3 : Nat) (x : Bu) (H : Heap) : Prop where
  old : H.take h0.length = h0
  g2 : h0.length ≤ b2
  g3 : h0.length ≤ b3
  ne : b3 ≠ b2
  r2 : rd H b2 = some ⟨.fix, zeroB.c⟩
  r3 : rd H b3 = some ⟨.fix, x.c⟩
theorem InB.len {h0 : Heap} {b2 b3 : Nat} {x : Bu} {H : Heap} (i : InB h0 b2 b3 x H) : h0.length ≤ H.length := Nat.le_trans i.g2 (Nat.le_of_lt (rd_lt i.r2))
theorem InB.next {h0 : Heap} {b2 b3 : Nat} {x y : Bu} {H : Heap} (i : InB h0 b2 b3 x H) (X : Option Blk) : InB h0 b2 b3 y ((H.set b3 (some ⟨.fix, y.c⟩)) ++ [X]) where
  old := take_app (take_set i.old i.g3) (by simpa using i.len)
  g2 := i.g2
  g3 := i.g3
  ne := i.ne
  r2 := rd_old (by rw [rd_set_ne i.ne]; exact i.r2)
  r3 := rd_old (rd_set (rd_lt i.r3))
theorem bk_at {x : Int} {k : Nat} (hk : bkN x = k) (H : Heap) : opA (Plain.env tblB noEnv) (.call 37 [(.const (.int .i64 x))]) [] H = some ((.int .i64 k), H) := by
  subst hk; rfl

abbrev fr24 (b2 b3 : Nat) (s : Value) (n k : Int) : Fr := fr 24 [(2, (.pointer (some ⟨b2, 0, none⟩))), (3, (.pointer (some ⟨b3, 0, none⟩))), (6, s), (7, (.int .i64 n)), (8, (.int .i64 k))]
def inv24 (h0 : Heap) (s : Value) (rows : List Lo) (b2 b3 : Nat) (m : Nat) (t : Fr) (H : Heap) : Prop :=
  ∃ i, i + m = rows.length ∧ t = fr24 b2 b3 s rows.length i ∧ InB h0 b2 b3 (buc (rows.take i)) H
theorem loop24 {h0 : Heap} {s : Value} {rows : List Lo} {b2 b3 : Nat} {H0 : Heap} (hs : RowsAt 5 h0 s (rows.map Lo.enc)) (hl : rows.length ≤ 1099511627776) (i0 : InB h0 b2 b3 zeroB H0) :
    Wp (Plain.env tblB noEnv) (inL [2, 3]) (.block 0 (.loop body24_0)) (fr24 b2 b3 s rows.length 0) H0 fun e t H => e = .normal ∧ t = fr 24 [(2, (.pointer (some ⟨b2, 0, none⟩))), (3, (.pointer (some ⟨b3, 0, none⟩)))] ∧ InB h0 b2 b3 (buc rows) H := by
  refine Wp.block ((Wp.loop (K := fun e t H => e = .exit 0 ∧ t = fr24 b2 b3 s rows.length rows.length ∧ InB h0 b2 b3 (buc rows) H) (inv24 h0 s rows b2 b3) ?_ rows.length _ _ ⟨0, by omega, rfl, i0⟩).ends fun e t H ⟨q1, q2, q3⟩ => ?_)
  · rintro m t H ⟨i, hi, ht, hI⟩
    subst ht
    cases m with
    | zero =>
      have hkl : i = rows.length := by omega
      subst hkl
      rw [List.take_length] at hI
      refine Wp.piece 100 (hn24x s rows.length rows.length b2 b3 H) ?_
      rw [tree24x]
      exact ⟨by simp, outP_pk ⟨rfl, rfl, hI⟩⟩
    | succ m =>
      have hlt : i < rows.length := by omega
      have hx : rows[i]? = some rows[i] := List.getElem?_eq_getElem hlt
      generalize rows[i] = x at hx
      obtain ⟨q, hq1, hq2, _⟩ := (hs.more fun B blk e => rd_take hI.old e).at_ (i := i) (row := x.enc) (by rw [List.getElem?_map, hx]; rfl)
      have nx := buc_take hx
      have r3 := hI.r3
      have lt3 := rd_lt r3
      have wi : IntKind.wrap .i64 ((i : Int) + 1) = ((i + 1 : Nat) : Int) := by rw [wrap_id (by omega) (by omega)]; rfl
      by_cases c1 : x.m < 1
      · -- 0
        have hk : bkN x.m = 0 := by simp [bkN, *]
        have hnew : buc (rows.take (i + 1)) = ⟨IntKind.wrap .i64 ((buc (rows.take i)).p + x.b), (buc (rows.take i)).q, (buc (rows.take i)).r, (buc (rows.take i)).s⟩ := by rw [nx, hk]; rfl
        refine Wp.piece 100 (hn24k0 s q rows.length i b2 b3 (buc (rows.take i)).p (buc (rows.take i)).q (buc (rows.take i)).r (buc (rows.take i)).s x.a x.b x.c x.m x.d H) ?_
        rw [tree24k0, wi]
        refine ⟨(by simp; omega), ?_⟩
        refine ⟨hq1 _ _, ?_⟩
        refine ⟨hq2 _, ?_⟩
        refine ⟨st_ (rd_last rfl) (by intro q; cases q) rfl rfl (by simp) rfl (set_last rfl), ?_⟩
        refine ⟨rfl, ?_⟩
        refine ⟨ld1 (rd_last rfl) rfl, ?_⟩
        refine ⟨bk_at hk _, ?_⟩
        refine ⟨ld1 (rd_old r3) rfl, ?_⟩
        refine ⟨ld1 (rd_last rfl) rfl, ?_⟩
        refine ⟨st_ (rd_old r3) (by intro q; cases q) rfl rfl (by simp [Bu.c]) rfl (by rw [set_old lt3]; rfl), ?_⟩
        exact outP_pk ⟨m, by omega, i + 1, by omega, rfl, by rw [hnew]; exact hI.next _⟩
      by_cases c2 : x.m < 3
      · -- 1
        have hk : bkN x.m = 1 := by simp [bkN, *]
        have hnew : buc (rows.take (i + 1)) = ⟨(buc (rows.take i)).p, IntKind.wrap .i64 ((buc (rows.take i)).q + x.b), (buc (rows.take i)).r, (buc (rows.take i)).s⟩ := by rw [nx, hk]; rfl
        refine Wp.piece 100 (hn24k1 s q rows.length i b2 b3 (buc (rows.take i)).p (buc (rows.take i)).q (buc (rows.take i)).r (buc (rows.take i)).s x.a x.b x.c x.m x.d H) ?_
        rw [tree24k1, wi]
        refine ⟨(by simp; omega), ?_⟩
        refine ⟨hq1 _ _, ?_⟩
        refine ⟨hq2 _, ?_⟩
        refine ⟨st_ (rd_last rfl) (by intro q; cases q) rfl rfl (by simp) rfl (set_last rfl), ?_⟩
        refine ⟨rfl, ?_⟩
        refine ⟨ld1 (rd_last rfl) rfl, ?_⟩
        refine ⟨bk_at hk _, ?_⟩
        refine ⟨ld1 (rd_old r3) rfl, ?_⟩
        refine ⟨ld1 (rd_last rfl) rfl, ?_⟩
        refine ⟨st_ (rd_old r3) (by intro q; cases q) rfl rfl (by simp [Bu.c]) rfl (by rw [set_old lt3]; rfl), ?_⟩
        exact outP_pk ⟨m, by omega, i + 1, by omega, rfl, by rw [hnew]; exact hI.next _⟩
      by_cases c3 : x.m < 6
      · -- 2
        have hk : bkN x.m = 2 := by simp [bkN, *]
        have hnew : buc (rows.take (i + 1)) = ⟨(buc (rows.take i)).p, (buc (rows.take i)).q, IntKind.wrap .i64 ((buc (rows.take i)).r + x.b), (buc (rows.take i)).s⟩ := by rw [nx, hk]; rfl
        refine Wp.piece 100 (hn24k2 s q rows.length i b2 b3 (buc (rows.take i)).p (buc (rows.take i)).q (buc (rows.take i)).r (buc (rows.take i)).s x.a x.b x.c x.m x.d H) ?_
        rw [tree24k2, wi]
        refine ⟨(by simp; omega), ?_⟩
        refine ⟨hq1 _ _, ?_⟩
        refine ⟨hq2 _, ?_⟩
        refine ⟨st_ (rd_last rfl) (by intro q; cases q) rfl rfl (by simp) rfl (set_last rfl), ?_⟩
        refine ⟨rfl, ?_⟩
        refine ⟨ld1 (rd_last rfl) rfl, ?_⟩
        refine ⟨bk_at hk _, ?_⟩
        refine ⟨ld1 (rd_old r3) rfl, ?_⟩
        refine ⟨ld1 (rd_last rfl) rfl, ?_⟩
        refine ⟨st_ (rd_old r3) (by intro q; cases q) rfl rfl (by simp [Bu.c]) rfl (by rw [set_old lt3]; rfl), ?_⟩
        exact outP_pk ⟨m, by omega, i + 1, by omega, rfl, by rw [hnew]; exact hI.next _⟩
      · -- 3
        have hk : bkN x.m = 3 := by simp [bkN, *]
        have hnew : buc (rows.take (i + 1)) = ⟨(buc (rows.take i)).p, (buc (rows.take i)).q, (buc (rows.take i)).r, IntKind.wrap .i64 ((buc (rows.take i)).s + x.b)⟩ := by rw [nx, hk]; rfl
        refine Wp.piece 100 (hn24k3 s q rows.length i b2 b3 (buc (rows.take i)).p (buc (rows.take i)).q (buc (rows.take i)).r (buc (rows.take i)).s x.a x.b x.c x.m x.d H) ?_
        rw [tree24k3, wi]
        refine ⟨(by simp; omega), ?_⟩
        refine ⟨hq1 _ _, ?_⟩
        refine ⟨hq2 _, ?_⟩
        refine ⟨st_ (rd_last rfl) (by intro q; cases q) rfl rfl (by simp) rfl (set_last rfl), ?_⟩
        refine ⟨rfl, ?_⟩
        refine ⟨ld1 (rd_last rfl) rfl, ?_⟩
        refine ⟨bk_at hk _, ?_⟩
        refine ⟨ld1 (rd_old r3) rfl, ?_⟩
        refine ⟨ld1 (rd_last rfl) rfl, ?_⟩
        refine ⟨st_ (rd_old r3) (by intro q; cases q) rfl rfl (by simp [Bu.c]) rfl (by rw [set_old lt3]; rfl), ?_⟩
        exact outP_pk ⟨m, by omega, i + 1, by omega, rfl, by rw [hnew]; exact hI.next _⟩
  · subst q1 q2
    exact ⟨_, norm_ag (inL [2, 3]) _, rfl, by kernel_rfl, q3⟩
theorem start24 (s : Value) : (([s] : List Value) ++ List.replicate (il24.ntmps - ([s] : List Value).length) undef) = fr 24 [(0, s)] := by kernel_rfl
theorem sim24 {h0 : Heap} {s : Value} {rows : List Lo} (hs : RowsAt 5 h0 s (rows.map Lo.enc)) (hl : rows.length ≤ 1099511627776) : Sim Try.prog 24 [s] h0 fun v h' => v = (buc rows).v ∧ h' = h0 := by
  refine Sim.keep ?_ (fun v hv => by subst hv; rfl)
  refine wp_sim' mixed (Plain.ok okB noEnv_ok) (Plain.quiet noEnv_quiet) st24 ?_
  rw [start24, show il24.res = [.cell 2 (some 4)] from rfl, show il24.body = il24a from rfl]
  have i0 : InB h0 h0.length (h0 ++ [some (Blk.mk .fix zeroB.c)]).length zeroB ((h0 ++ [some (Blk.mk .fix zeroB.c)]) ++ [some (Blk.mk .fix zeroB.c)]) :=
    ⟨take_app (take_app (List.take_length) (Nat.le_refl _)) (by simp), Nat.le_refl _, by simp, by simp, rd_old (rd_last rfl), rd_last rfl⟩
  obtain ⟨e, t, H1, ⟨k1, k2, k3⟩, w⟩ := (loop24 hs hl i0).exact
  subst k1 k2
  refine Wp.piece 100 (hn24a s rows.length (buc rows).p (buc rows).q (buc rows).r (buc rows).s h0 H1) ?_
  rw [tree24a]
  refine ⟨by have := hs.len (Γ := Plain.env tblB noEnv) (H := ((h0 ++ [some (Blk.mk .fix zeroB.c)]) ++ [some (Blk.mk .fix zeroB.c)])); rw [List.length_map] at this; exact this, w, ldn k3.r3 (by simp [Bu.c]) rfl, st_ k3.r2 (by intro q; cases q) rfl rfl (by simp [Bu.c, zeroB]) rfl rfl, outP_pk ⟨.inr rfl, _, res_cell rfl (rd_set (rd_lt k3.r2)) rfl, rfl, ?_, take_set k3.old (Nat.le_refl _)⟩⟩
  have := k3.len
  simpa using this

abbrev fr26 (b2 b3 : Nat) (s : Value) (n k : Int) : Fr := fr 50 [(2, (.pointer (some ⟨b2, 0, none⟩))), (3, (.pointer (some ⟨b3, 0, none⟩))), (6, s), (7, (.int .i64 n)), (8, (.int .i64 k))]
def inv26 (h0 : Heap) (s : Value) (rows : List Lo) (b2 b3 : Nat) (m : Nat) (t : Fr) (H : Heap) : Prop :=
  ∃ i, i + m = rows.length ∧ t = fr26 b2 b3 s rows.length i ∧ InB h0 b2 b3 (buc (rows.take i)) H
theorem loop26 {h0 : Heap} {s : Value} {rows : List Lo} {b2 b3 : Nat} {H0 : Heap} (hs : RowsAt 5 h0 s (rows.map Lo.enc)) (hl : rows.length ≤ 1099511627776) (hm : ∀ x ∈ rows, 0 ≤ x.m) (i0 : InB h0 b2 b3 zeroB H0) :
    Wp (Plain.env tblB noEnv) (inL [2, 3]) (.block 0 (.loop body26_0)) (fr26 b2 b3 s rows.length 0) H0 fun e t H => e = .normal ∧ t = fr 50 [(2, (.pointer (some ⟨b2, 0, none⟩))), (3, (.pointer (some ⟨b3, 0, none⟩)))] ∧ InB h0 b2 b3 (buc rows) H := by
  refine Wp.block ((Wp.loop (K := fun e t H => e = .exit 0 ∧ t = fr26 b2 b3 s rows.length rows.length ∧ InB h0 b2 b3 (buc rows) H) (inv26 h0 s rows b2 b3) ?_ rows.length _ _ ⟨0, by omega, rfl, i0⟩).ends fun e t H ⟨q1, q2, q3⟩ => ?_)
  · rintro m t H ⟨i, hi, ht, hI⟩
    subst ht
    cases m with
    | zero =>
      have hkl : i = rows.length := by omega
      subst hkl
      rw [List.take_length] at hI
      refine Wp.piece 100 (hn26x s rows.length rows.length b2 b3 H) ?_
      rw [tree26x]
      exact ⟨by simp, outP_pk ⟨rfl, rfl, hI⟩⟩
    | succ m =>
      have hlt : i < rows.length := by omega
      have hx : rows[i]? = some rows[i] := List.getElem?_eq_getElem hlt
      generalize rows[i] = x at hx
      have hx0 : 0 ≤ x.m := hm x (List.mem_of_getElem? hx)
      obtain ⟨q, hq1, hq2, _⟩ := (hs.more fun B blk e => rd_take hI.old e).at_ (i := i) (row := x.enc) (by rw [List.getElem?_map, hx]; rfl)
      have nx := buc_take hx
      have r3 := hI.r3
      have lt3 := rd_lt r3
      have wi : IntKind.wrap .i64 ((i : Int) + 1) = ((i + 1 : Nat) : Int) := by rw [wrap_id (by omega) (by omega)]; rfl
      by_cases c1 : x.m < 1
      · -- 0
        have hk : bkN x.m = 0 := by simp [bkN, *]
        have hnew : buc (rows.take (i + 1)) = ⟨IntKind.wrap .i64 ((buc (rows.take i)).p + x.b), (buc (rows.take i)).q, (buc (rows.take i)).r, (buc (rows.take i)).s⟩ := by rw [nx, hk]; rfl
        refine Wp.piece 100 (hn26k0 s q rows.length i b2 b3 (buc (rows.take i)).p (buc (rows.take i)).q (buc (rows.take i)).r (buc (rows.take i)).s x.a x.b x.c x.m x.d H) ?_
        rw [tree26k0, wi]
        refine ⟨(by simp; omega), ?_⟩
        refine ⟨hq1 _ _, ?_⟩
        refine ⟨hq2 _, ?_⟩
        refine ⟨st_ (rd_last rfl) (by intro q; cases q) rfl rfl (by simp) rfl (set_last rfl), ?_⟩
        refine ⟨ld1 (rd_last rfl) rfl, ?_⟩
        refine ⟨(by simp; omega), ?_⟩
        refine ⟨ld1 (rd_old r3) rfl, ?_⟩
        refine ⟨ld1 (rd_last rfl) rfl, ?_⟩
        refine ⟨st_ (rd_old r3) (by intro q; cases q) rfl rfl (by simp [Bu.c]) rfl (by rw [set_old lt3]; rfl), ?_⟩
        exact outP_pk ⟨m, by omega, i + 1, by omega, rfl, by rw [hnew]; exact hI.next _⟩
      by_cases c2 : x.m < 3
      · -- 1
        have hk : bkN x.m = 1 := by simp [bkN, *]
        have hnew : buc (rows.take (i + 1)) = ⟨(buc (rows.take i)).p, IntKind.wrap .i64 ((buc (rows.take i)).q + x.b), (buc (rows.take i)).r, (buc (rows.take i)).s⟩ := by rw [nx, hk]; rfl
        refine Wp.piece 100 (hn26k1 s q rows.length i b2 b3 (buc (rows.take i)).p (buc (rows.take i)).q (buc (rows.take i)).r (buc (rows.take i)).s x.a x.b x.c x.m x.d H) ?_
        rw [tree26k1, wi]
        refine ⟨(by simp; omega), ?_⟩
        refine ⟨hq1 _ _, ?_⟩
        refine ⟨hq2 _, ?_⟩
        refine ⟨st_ (rd_last rfl) (by intro q; cases q) rfl rfl (by simp) rfl (set_last rfl), ?_⟩
        refine ⟨ld1 (rd_last rfl) rfl, ?_⟩
        refine ⟨(by simp; omega), ?_⟩
        refine ⟨ld1 (rd_last rfl) rfl, ?_⟩
        refine ⟨(by simp; omega), ?_⟩
        refine ⟨ld1 (rd_old r3) rfl, ?_⟩
        refine ⟨ld1 (rd_last rfl) rfl, ?_⟩
        refine ⟨st_ (rd_old r3) (by intro q; cases q) rfl rfl (by simp [Bu.c]) rfl (by rw [set_old lt3]; rfl), ?_⟩
        exact outP_pk ⟨m, by omega, i + 1, by omega, rfl, by rw [hnew]; exact hI.next _⟩
      by_cases c3 : x.m < 6
      · -- 2
        have hk : bkN x.m = 2 := by simp [bkN, *]
        have hnew : buc (rows.take (i + 1)) = ⟨(buc (rows.take i)).p, (buc (rows.take i)).q, IntKind.wrap .i64 ((buc (rows.take i)).r + x.b), (buc (rows.take i)).s⟩ := by rw [nx, hk]; rfl
        refine Wp.piece 100 (hn26k2 s q rows.length i b2 b3 (buc (rows.take i)).p (buc (rows.take i)).q (buc (rows.take i)).r (buc (rows.take i)).s x.a x.b x.c x.m x.d H) ?_
        rw [tree26k2, wi]
        refine ⟨(by simp; omega), ?_⟩
        refine ⟨hq1 _ _, ?_⟩
        refine ⟨hq2 _, ?_⟩
        refine ⟨st_ (rd_last rfl) (by intro q; cases q) rfl rfl (by simp) rfl (set_last rfl), ?_⟩
        refine ⟨ld1 (rd_last rfl) rfl, ?_⟩
        refine ⟨(by simp; omega), ?_⟩
        refine ⟨ld1 (rd_last rfl) rfl, ?_⟩
        refine ⟨(by simp; omega), ?_⟩
        refine ⟨ld1 (rd_last rfl) rfl, ?_⟩
        refine ⟨(by simp; omega), ?_⟩
        refine ⟨ld1 (rd_old r3) rfl, ?_⟩
        refine ⟨ld1 (rd_last rfl) rfl, ?_⟩
        refine ⟨st_ (rd_old r3) (by intro q; cases q) rfl rfl (by simp [Bu.c]) rfl (by rw [set_old lt3]; rfl), ?_⟩
        exact outP_pk ⟨m, by omega, i + 1, by omega, rfl, by rw [hnew]; exact hI.next _⟩
      · -- 3
        have hk : bkN x.m = 3 := by simp [bkN, *]
        have hnew : buc (rows.take (i + 1)) = ⟨(buc (rows.take i)).p, (buc (rows.take i)).q, (buc (rows.take i)).r, IntKind.wrap .i64 ((buc (rows.take i)).s + x.b)⟩ := by rw [nx, hk]; rfl
        refine Wp.piece 100 (hn26k3 s q rows.length i b2 b3 (buc (rows.take i)).p (buc (rows.take i)).q (buc (rows.take i)).r (buc (rows.take i)).s x.a x.b x.c x.m x.d H) ?_
        rw [tree26k3, wi]
        refine ⟨(by simp; omega), ?_⟩
        refine ⟨hq1 _ _, ?_⟩
        refine ⟨hq2 _, ?_⟩
        refine ⟨st_ (rd_last rfl) (by intro q; cases q) rfl rfl (by simp) rfl (set_last rfl), ?_⟩
        refine ⟨ld1 (rd_last rfl) rfl, ?_⟩
        refine ⟨(by simp; omega), ?_⟩
        refine ⟨ld1 (rd_last rfl) rfl, ?_⟩
        refine ⟨(by simp; omega), ?_⟩
        refine ⟨ld1 (rd_last rfl) rfl, ?_⟩
        refine ⟨(by simp; omega), ?_⟩
        refine ⟨ld1 (rd_old r3) rfl, ?_⟩
        refine ⟨ld1 (rd_last rfl) rfl, ?_⟩
        refine ⟨st_ (rd_old r3) (by intro q; cases q) rfl rfl (by simp [Bu.c]) rfl (by rw [set_old lt3]; rfl), ?_⟩
        exact outP_pk ⟨m, by omega, i + 1, by omega, rfl, by rw [hnew]; exact hI.next _⟩
  · subst q1 q2
    exact ⟨_, norm_ag (inL [2, 3]) _, rfl, by kernel_rfl, q3⟩
theorem start26 (s : Value) : (([s] : List Value) ++ List.replicate (il26.ntmps - ([s] : List Value).length) undef) = fr 50 [(0, s)] := by kernel_rfl
theorem sim26 {h0 : Heap} {s : Value} {rows : List Lo} (hs : RowsAt 5 h0 s (rows.map Lo.enc)) (hl : rows.length ≤ 1099511627776) (hm : ∀ x ∈ rows, 0 ≤ x.m) : Sim Try.prog 26 [s] h0 fun v h' => v = (buc rows).v ∧ h' = h0 := by
  refine Sim.keep ?_ (fun v hv => by subst hv; rfl)
  refine wp_sim' mixed (Plain.ok okB noEnv_ok) (Plain.quiet noEnv_quiet) st26 ?_
  rw [start26, show il26.res = [.cell 2 (some 4)] from rfl, show il26.body = il26a from rfl]
  have i0 : InB h0 h0.length (h0 ++ [some (Blk.mk .fix zeroB.c)]).length zeroB ((h0 ++ [some (Blk.mk .fix zeroB.c)]) ++ [some (Blk.mk .fix zeroB.c)]) :=
    ⟨take_app (take_app (List.take_length) (Nat.le_refl _)) (by simp), Nat.le_refl _, by simp, by simp, rd_old (rd_last rfl), rd_last rfl⟩
  obtain ⟨e, t, H1, ⟨k1, k2, k3⟩, w⟩ := (loop26 hs hl hm i0).exact
  subst k1 k2
  refine Wp.piece 100 (hn26a s rows.length (buc rows).p (buc rows).q (buc rows).r (buc rows).s h0 H1) ?_
  rw [tree26a]
  refine ⟨by have := hs.len (Γ := Plain.env tblB noEnv) (H := ((h0 ++ [some (Blk.mk .fix zeroB.c)]) ++ [some (Blk.mk .fix zeroB.c)])); rw [List.length_map] at this; exact this, w, ldn k3.r3 (by simp [Bu.c]) rfl, st_ k3.r2 (by intro q; cases q) rfl rfl (by simp [Bu.c, zeroB]) rfl rfl, outP_pk ⟨.inr rfl, _, res_cell rfl (rd_set (rd_lt k3.r2)) rfl, rfl, ?_, take_set k3.old (Nat.le_refl _)⟩⟩
  have := k3.len
  simpa using this
end Go.Proofs.Ytjnppjipoibbeaa.Buck
