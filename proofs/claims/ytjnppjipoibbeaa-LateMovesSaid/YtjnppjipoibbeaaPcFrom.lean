/-
  late: sums of buckets; the document's balance; how they hang together.
-/
import Derived.Test.YtjnppjipoibbeaaPcBuck
namespace Go.Proofs.Ytjnppjipoibbeaa.Buck
open Go.Am
open Tape (pl wrap_l wrap_r wrap_def mixed)
set_option linter.all false
set_option maxRecDepth 100000
def w64 (x : Int) : Int := IntKind.wrap .i64 x
def fromB (t : Bu) (k : Int) : Int := if k ≤ 0 then IntKind.wrap .i64 (IntKind.wrap .i64 (IntKind.wrap .i64 (IntKind.wrap .i64 (0 + t.p) + t.q) + t.r) + t.s)
  else if k = 1 then IntKind.wrap .i64 (IntKind.wrap .i64 (IntKind.wrap .i64 (0 + t.q) + t.r) + t.s)
  else if k = 2 then IntKind.wrap .i64 (IntKind.wrap .i64 (0 + t.r) + t.s)
  else if k = 3 then IntKind.wrap .i64 (0 + t.s) else 0
def bal (l : List Lo) : Int := l.foldl (fun t x => IntKind.wrap .i64 (t + x.b)) 0
theorem bal_take {l : List Lo} {k : Nat} {x : Lo} (h : l[k]? = some x) : bal (l.take (k + 1)) = IntKind.wrap .i64 (bal (l.take k) + x.b) := by
  have : l.take (k + 1) = l.take k ++ [x] := by
    rw [List.take_succ, h]; rfl
  rw [this, bal, List.foldl_append]
  rfl
def sFrom : List Value → Option (Bool × Value)
  | [.agg a, .int .i64 k] => match intsOf a.toList with
    | some [p, q, r, s] => some (true, .int .i64 (fromB ⟨p, q, r, s⟩ k))
    | _ => none
  | _ => none
def sAll : List Value → Option (Bool × Value)
  | [.agg a] => match intsOf a.toList with
    | some [p, q, r, s] => some (true, .int .i64 (fromB ⟨p, q, r, s⟩ 0))
    | _ => none
  | _ => none
def tbl27 : Plain := [(27, sFrom)]
/-- cascade/cascaderef9.Balance -/
def il29 : FnIL := ⟨18, [.tmp 2],
  .seq (.reg [
     ⟨(some 2), none, .mov (.const (.int .i64 0))⟩])
  (.seq (.reg [
     ⟨(some 3), none, .mov (.const (.int .i64 0))⟩])
  (.seq (.seq (.reg [
      ⟨(some 6), none, .mov (.tmp 0)⟩,
      ⟨(some 7), none, .len (.tmp 6)⟩,
      ⟨(some 8), none, .mov (.const (.int .i64 0))⟩])
   (.block 0
     (.loop
       (.seq (.reg [
          ⟨(some 9), none, .bin .lss (.tmp 8) (.tmp 7)⟩])
       (.seq (.ite (.tmp 9)
          (.skip)
          (.exit 0))
       (.seq (.block 1
          (.seq (.reg [
             ⟨(some 10), none, .iadr 5 none (.tmp 6) (.tmp 8)⟩,
             ⟨(some 11), none, .load (.tmp 10) (some 5)⟩,
             ⟨(some 5), none, .alloc [(.int .i64 0), (.int .i64 0), (.int .i64 0), (.int .i64 0), (.bool false)]⟩,
             ⟨none, none, .store (.tmp 5) (.tmp 11) 5⟩])
          (.reg [
            ⟨(some 12), none, .mov (.tmp 3)⟩,
            ⟨(some 13), none, .fadr 1 (.tmp 5)⟩,
            ⟨(some 14), none, .load (.tmp 13) none⟩,
            ⟨(some 15), none, .bin .add (.tmp 12) (.tmp 14)⟩,
            ⟨(some 3), none, .mov (.tmp 15)⟩])))
       (.reg [
         ⟨(some 16), none, .bin .add (.tmp 8) (.const (.int .i64 1))⟩,
         ⟨(some 8), none, .mov (.tmp 16)⟩])))))))
  (.seq (.reg [
     ⟨(some 17), none, .mov (.tmp 3)⟩,
     ⟨(some 2), none, .mov (.tmp 17)⟩])
  (.ret))))⟩
theorem st29 : stF Try.prog qtB 29 = some il29 := by kernel_rfl
def body29_0 : IL := .seq (.reg [
     ⟨(some 9), none, .bin .lss (.tmp 8) (.tmp 7)⟩])
  (.seq (.ite (.tmp 9)
     (.skip)
     (.exit 0))
  (.seq (.block 1
     (.seq (.reg [
        ⟨(some 10), none, .iadr 5 none (.tmp 6) (.tmp 8)⟩,
        ⟨(some 11), none, .load (.tmp 10) (some 5)⟩,
        ⟨(some 5), none, .alloc [(.int .i64 0), (.int .i64 0), (.int .i64 0), (.int .i64 0), (.bool false)]⟩,
        ⟨none, none, .store (.tmp 5) (.tmp 11) 5⟩])
     (.reg [
       ⟨(some 12), none, .mov (.tmp 3)⟩,
       ⟨(some 13), none, .fadr 1 (.tmp 5)⟩,
       ⟨(some 14), none, .load (.tmp 13) none⟩,
       ⟨(some 15), none, .bin .add (.tmp 12) (.tmp 14)⟩,
       ⟨(some 3), none, .mov (.tmp 15)⟩])))
  (.reg [
    ⟨(some 16), none, .bin .add (.tmp 8) (.const (.int .i64 1))⟩,
    ⟨(some 8), none, .mov (.tmp 16)⟩])))
def hn29t (s q : Value) (n i a : Int) (x0 x1 x2 x3 : Int) (d : Bool) (H : Heap) : Hj := (.sym (.use 10 q H (.use 11 (.agg ⟨[(.int .i64 x0), (.int .i64 x1), (.int .i64 x2), (.int .i64 x3), (.bool d)]⟩) H (.use 9999 (.tuple ⟨[]⟩) (H ++ [some (Blk.mk .fix [(.int .i64 x0), (.int .i64 x1), (.int .i64 x2), (.int .i64 x3), (.bool d)])]) (.use 14 (.int .i64 x1) (H ++ [some (Blk.mk .fix [(.int .i64 x0), (.int .i64 x1), (.int .i64 x2), (.int .i64 x3), (.bool d)])]) .nil)))) .nil)
theorem tree29t (s q : Value) (n i a : Int) (x0 x1 x2 x3 : Int) (d : Bool) (H : Heap) : pieceT tblB noEnv 100 (fun i => exL i body29_0 || inL [2, 3] i) body29_0 (hn29t s q n i a x0 x1 x2 x3 d H) (fr 18 [(2, (.int .i64 0)), (3, (.int .i64 a)), (6, s), (7, (.int .i64 n)), (8, (.int .i64 i))]) H =
(.br (decide (i < n))
 (.claim (opA (Plain.env tblB noEnv) (.iadr 5 none (.const s) (.const (.int .i64 i))) [] H = some (q, H))
 (.claim (opA (Plain.env tblB noEnv) (.load (.const q) (some 5)) [] H = some ((.agg ⟨[(.int .i64 x0), (.int .i64 x1), (.int .i64 x2), (.int .i64 x3), (.bool d)]⟩), H))
 (.claim (opA (Plain.env tblB noEnv) (.store (.const (.pointer (some ⟨(H).length, 0, none⟩))) (.const (.agg ⟨[(.int .i64 x0), (.int .i64 x1), (.int .i64 x2), (.int .i64 x3), (.bool d)]⟩)) 5) [] (H ++ [some (Blk.mk .fix [(.int .i64 0), (.int .i64 0), (.int .i64 0), (.int .i64 0), (.bool false)])]) = some ((.tuple ⟨[]⟩), (H ++ [some (Blk.mk .fix [(.int .i64 x0), (.int .i64 x1), (.int .i64 x2), (.int .i64 x3), (.bool d)])])))
 (.claim (opA (Plain.env tblB noEnv) (.load (.const (.pointer (some ⟨(H).length, 1, none⟩))) none) [] (H ++ [some (Blk.mk .fix [(.int .i64 x0), (.int .i64 x1), (.int .i64 x2), (.int .i64 x3), (.bool d)])]) = some ((.int .i64 x1), (H ++ [some (Blk.mk .fix [(.int .i64 x0), (.int .i64 x1), (.int .i64 x2), (.int .i64 x3), (.bool d)])])))
 (.ret (pk .normal (fr 18 [(2, (.int .i64 0)), (3, (.int .i64 (IntKind.wrap .i64 (a + x1)))), (6, s), (7, (.int .i64 n)), (8, (.int .i64 (IntKind.wrap .i64 (i + 1))))])) (H ++ [some (Blk.mk .fix [(.int .i64 x0), (.int .i64 x1), (.int .i64 x2), (.int .i64 x3), (.bool d)])]))))))
 (.ret (pk (.exit 0) (fr 18 [(2, (.int .i64 0)), (3, (.int .i64 a)), (6, s), (7, (.int .i64 n)), (8, (.int .i64 i))])) H)) := by kernel_rfl
def il29a : IL := .seq (.reg [
     ⟨(some 2), none, .mov (.const (.int .i64 0))⟩])
  (.seq (.reg [
     ⟨(some 3), none, .mov (.const (.int .i64 0))⟩])
  (.seq (.seq (.reg [
      ⟨(some 6), none, .mov (.tmp 0)⟩,
      ⟨(some 7), none, .len (.tmp 6)⟩,
      ⟨(some 8), none, .mov (.const (.int .i64 0))⟩])
   (.block 0
     (.loop
       (.seq (.reg [
          ⟨(some 9), none, .bin .lss (.tmp 8) (.tmp 7)⟩])
       (.seq (.ite (.tmp 9)
          (.skip)
          (.exit 0))
       (.seq (.block 1
          (.seq (.reg [
             ⟨(some 10), none, .iadr 5 none (.tmp 6) (.tmp 8)⟩,
             ⟨(some 11), none, .load (.tmp 10) (some 5)⟩,
             ⟨(some 5), none, .alloc [(.int .i64 0), (.int .i64 0), (.int .i64 0), (.int .i64 0), (.bool false)]⟩,
             ⟨none, none, .store (.tmp 5) (.tmp 11) 5⟩])
          (.reg [
            ⟨(some 12), none, .mov (.tmp 3)⟩,
            ⟨(some 13), none, .fadr 1 (.tmp 5)⟩,
            ⟨(some 14), none, .load (.tmp 13) none⟩,
            ⟨(some 15), none, .bin .add (.tmp 12) (.tmp 14)⟩,
            ⟨(some 3), none, .mov (.tmp 15)⟩])))
       (.reg [
         ⟨(some 16), none, .bin .add (.tmp 8) (.const (.int .i64 1))⟩,
         ⟨(some 8), none, .mov (.tmp 16)⟩])))))))
  (.seq (.reg [
     ⟨(some 17), none, .mov (.tmp 3)⟩,
     ⟨(some 2), none, .mov (.tmp 17)⟩])
  (.ret))))
def hn29a (s : Value) (n a : Int) (H H1 : Heap) : Hj := (.use 7 (.int .i64 n) H (.lp 0 [2, 3] (fr 18 [(2, (.int .i64 0)), (3, (.int .i64 a))]) H1 .nil))
theorem tree29a (s : Value) (n a : Int) (H H1 : Heap) : pieceT tblB noEnv 100 (resLv [.tmp 2]) il29a (hn29a s n a H H1) (fr 18 [(0, s)]) H =
(.claim (opA (Plain.env tblB noEnv) (.len (.const s)) [] H = some ((.int .i64 n), H))
 (.claim (Wp (Plain.env tblB noEnv) (inL [2, 3]) (.block 0 (.loop body29_0)) (fr 18 [(2, (.int .i64 0)), (3, (.int .i64 0)), (6, s), (7, (.int .i64 n)), (8, (.int .i64 0))]) H fun e s h' => e = .normal ∧ s = (fr 18 [(2, (.int .i64 0)), (3, (.int .i64 a))]) ∧ h' = H1)
 (.ret (pk .ret (fr 18 [(2, (.int .i64 a))])) H1))) := by kernel_rfl
/-- (cascade/late.Buckets).From -/
def il27 : FnIL := ⟨19, [.tmp 4],
  .seq (.reg [
     ⟨(some 2), none, .box (.tmp 0)⟩,
     ⟨(some 4), none, .mov (.const (.int .i64 0))⟩])
  (.seq (.reg [
     ⟨(some 5), none, .mov (.const (.int .i64 0))⟩])
  (.seq (.seq (.reg [
      ⟨(some 7), none, .mov (.tmp 1)⟩,
      ⟨(some 8), none, .mx (.tmp 7) (.const (.int .i64 0))⟩,
      ⟨(some 6), none, .mov (.tmp 8)⟩])
   (.block 0
     (.loop
       (.seq (.seq (.reg [
           ⟨(some 9), none, .mov (.tmp 6)⟩,
           ⟨(some 10), none, .bin .lss (.tmp 9) (.const (.int .i64 4))⟩])
        (.ite (.tmp 10)
          (.skip)
          (.exit 0)))
       (.seq (.block 1
          (.reg [
            ⟨(some 13), none, .mov (.tmp 5)⟩,
            ⟨(some 14), none, .mov (.tmp 6)⟩,
            ⟨(some 15), none, .iadr 1 (some 4) (.tmp 2) (.tmp 14)⟩,
            ⟨(some 16), none, .load (.tmp 15) none⟩,
            ⟨(some 17), none, .bin .add (.tmp 13) (.tmp 16)⟩,
            ⟨(some 5), none, .mov (.tmp 17)⟩]))
       (.reg [
         ⟨(some 11), none, .mov (.tmp 6)⟩,
         ⟨(some 12), none, .bin .add (.tmp 11) (.const (.int .i64 1))⟩,
         ⟨(some 6), none, .mov (.tmp 12)⟩]))))))
  (.seq (.reg [
     ⟨(some 18), none, .mov (.tmp 5)⟩,
     ⟨(some 4), none, .mov (.tmp 18)⟩])
  (.ret))))⟩
theorem st27 : stF Try.prog qtB 27 = some il27 := by kernel_rfl
def hn27i0 (a0 a1 a2 a3 : Int) (k : Int) : Hj := (.use 8 (.int .i64 0) [some ⟨.fix, [(.int .i64 a0), (.int .i64 a1), (.int .i64 a2), (.int .i64 a3)]⟩] (.con (.con (.con (.con (.con .nil))))))
theorem tree27i0 (a0 a1 a2 a3 : Int) (k : Int) : pieceT [] noEnv 100 (resLv [.tmp 4]) il27.body (hn27i0 a0 a1 a2 a3 k) (fr 19 [(0, (.agg ⟨[(.int .i64 a0), (.int .i64 a1), (.int .i64 a2), (.int .i64 a3)]⟩)), (1, (.int .i64 k))]) [] =
(.claim (opA (Plain.env [] noEnv) (.mx (.const (.int .i64 k)) (.const (.int .i64 0))) [] [some ⟨.fix, [(.int .i64 a0), (.int .i64 a1), (.int .i64 a2), (.int .i64 a3)]⟩] = some ((.int .i64 0), [some ⟨.fix, [(.int .i64 a0), (.int .i64 a1), (.int .i64 a2), (.int .i64 a3)]⟩]))
 (.ret (pk .ret (fr 19 [(4, (.int .i64 (IntKind.wrap .i64 ((IntKind.wrap .i64 ((IntKind.wrap .i64 ((IntKind.wrap .i64 (0 + a0)) + a1)) + a2)) + a3))))])) [some ⟨.fix, [(.int .i64 a0), (.int .i64 a1), (.int .i64 a2), (.int .i64 a3)]⟩])) := by kernel_rfl
def hn27i1 (a0 a1 a2 a3 : Int) (k : Int) : Hj := (.use 8 (.int .i64 1) [some ⟨.fix, [(.int .i64 a0), (.int .i64 a1), (.int .i64 a2), (.int .i64 a3)]⟩] (.con (.con (.con (.con .nil)))))
theorem tree27i1 (a0 a1 a2 a3 : Int) (k : Int) : pieceT [] noEnv 100 (resLv [.tmp 4]) il27.body (hn27i1 a0 a1 a2 a3 k) (fr 19 [(0, (.agg ⟨[(.int .i64 a0), (.int .i64 a1), (.int .i64 a2), (.int .i64 a3)]⟩)), (1, (.int .i64 k))]) [] =
(.claim (opA (Plain.env [] noEnv) (.mx (.const (.int .i64 k)) (.const (.int .i64 0))) [] [some ⟨.fix, [(.int .i64 a0), (.int .i64 a1), (.int .i64 a2), (.int .i64 a3)]⟩] = some ((.int .i64 1), [some ⟨.fix, [(.int .i64 a0), (.int .i64 a1), (.int .i64 a2), (.int .i64 a3)]⟩]))
 (.ret (pk .ret (fr 19 [(4, (.int .i64 (IntKind.wrap .i64 ((IntKind.wrap .i64 ((IntKind.wrap .i64 (0 + a1)) + a2)) + a3))))])) [some ⟨.fix, [(.int .i64 a0), (.int .i64 a1), (.int .i64 a2), (.int .i64 a3)]⟩])) := by kernel_rfl
def hn27i2 (a0 a1 a2 a3 : Int) (k : Int) : Hj := (.use 8 (.int .i64 2) [some ⟨.fix, [(.int .i64 a0), (.int .i64 a1), (.int .i64 a2), (.int .i64 a3)]⟩] (.con (.con (.con .nil))))
theorem tree27i2 (a0 a1 a2 a3 : Int) (k : Int) : pieceT [] noEnv 100 (resLv [.tmp 4]) il27.body (hn27i2 a0 a1 a2 a3 k) (fr 19 [(0, (.agg ⟨[(.int .i64 a0), (.int .i64 a1), (.int .i64 a2), (.int .i64 a3)]⟩)), (1, (.int .i64 k))]) [] =
(.claim (opA (Plain.env [] noEnv) (.mx (.const (.int .i64 k)) (.const (.int .i64 0))) [] [some ⟨.fix, [(.int .i64 a0), (.int .i64 a1), (.int .i64 a2), (.int .i64 a3)]⟩] = some ((.int .i64 2), [some ⟨.fix, [(.int .i64 a0), (.int .i64 a1), (.int .i64 a2), (.int .i64 a3)]⟩]))
 (.ret (pk .ret (fr 19 [(4, (.int .i64 (IntKind.wrap .i64 ((IntKind.wrap .i64 (0 + a2)) + a3))))])) [some ⟨.fix, [(.int .i64 a0), (.int .i64 a1), (.int .i64 a2), (.int .i64 a3)]⟩])) := by kernel_rfl
def hn27i3 (a0 a1 a2 a3 : Int) (k : Int) : Hj := (.use 8 (.int .i64 3) [some ⟨.fix, [(.int .i64 a0), (.int .i64 a1), (.int .i64 a2), (.int .i64 a3)]⟩] (.con (.con .nil)))
theorem tree27i3 (a0 a1 a2 a3 : Int) (k : Int) : pieceT [] noEnv 100 (resLv [.tmp 4]) il27.body (hn27i3 a0 a1 a2 a3 k) (fr 19 [(0, (.agg ⟨[(.int .i64 a0), (.int .i64 a1), (.int .i64 a2), (.int .i64 a3)]⟩)), (1, (.int .i64 k))]) [] =
(.claim (opA (Plain.env [] noEnv) (.mx (.const (.int .i64 k)) (.const (.int .i64 0))) [] [some ⟨.fix, [(.int .i64 a0), (.int .i64 a1), (.int .i64 a2), (.int .i64 a3)]⟩] = some ((.int .i64 3), [some ⟨.fix, [(.int .i64 a0), (.int .i64 a1), (.int .i64 a2), (.int .i64 a3)]⟩]))
 (.ret (pk .ret (fr 19 [(4, (.int .i64 (IntKind.wrap .i64 (0 + a3))))])) [some ⟨.fix, [(.int .i64 a0), (.int .i64 a1), (.int .i64 a2), (.int .i64 a3)]⟩])) := by kernel_rfl
def hn27i4 (a0 a1 a2 a3 : Int) (k : Int) : Hj := (.use 8 (.int .i64 k) [some ⟨.fix, [(.int .i64 a0), (.int .i64 a1), (.int .i64 a2), (.int .i64 a3)]⟩] (.no .nil))
theorem tree27i4 (a0 a1 a2 a3 : Int) (k : Int) : pieceT [] noEnv 100 (resLv [.tmp 4]) il27.body (hn27i4 a0 a1 a2 a3 k) (fr 19 [(0, (.agg ⟨[(.int .i64 a0), (.int .i64 a1), (.int .i64 a2), (.int .i64 a3)]⟩)), (1, (.int .i64 k))]) [] =
(.claim (opA (Plain.env [] noEnv) (.mx (.const (.int .i64 k)) (.const (.int .i64 0))) [] [some ⟨.fix, [(.int .i64 a0), (.int .i64 a1), (.int .i64 a2), (.int .i64 a3)]⟩] = some ((.int .i64 k), [some ⟨.fix, [(.int .i64 a0), (.int .i64 a1), (.int .i64 a2), (.int .i64 a3)]⟩]))
 (.req (!(decide (k < 4))) (.ret (pk .ret (fr 19 [(4, (.int .i64 0))])) [some ⟨.fix, [(.int .i64 a0), (.int .i64 a1), (.int .i64 a2), (.int .i64 a3)]⟩]))) := by kernel_rfl
/-- (cascade/late.Buckets).All -/
def il28 : FnIL := ⟨5, [.tmp 2],
  .seq (.reg [
     ⟨(some 1), none, .box (.tmp 0)⟩,
     ⟨(some 2), none, .mov (.const (.int .i64 0))⟩])
  (.seq (.reg [
     ⟨(some 3), none, .load (.tmp 1) (some 4)⟩,
     ⟨(some 4), none, .call 27 [(.tmp 3), (.const (.int .i64 0))]⟩,
     ⟨(some 2), none, .mov (.tmp 4)⟩])
  (.ret))⟩
theorem st28 : stF Try.prog qtB 28 = some il28 := by kernel_rfl
def hn28 : Hj := .nil
theorem tree28 (a0 a1 a2 a3 : Int) : fnU tbl27 noEnv 100 il28 hn28 [.agg ⟨[.int .i64 a0, .int .i64 a1, .int .i64 a2, .int .i64 a3]⟩] [] =
(.req true (.ret (.int .i64 (fromB ⟨a0, a1, a2, a3⟩ 0)) [])) := by kernel_rfl

theorem mx_ok (Γ : Env) (k : Int) (h : Heap) (i : Int) (hi : (if 0 > k then 0 else k) = i) : opA Γ (.mx (.const (.int .i64 k)) (.const (.int .i64 0))) [] h = some ((.int .i64 i), h) := by
  subst hi
  simp only [opA, pureA, ev]
  rfl
theorem start27 (a0 a1 a2 a3 k : Int) : (([.agg ⟨[.int .i64 a0, .int .i64 a1, .int .i64 a2, .int .i64 a3]⟩, .int .i64 k] : List Value) ++ List.replicate (il27.ntmps - ([.agg ⟨[.int .i64 a0, .int .i64 a1, .int .i64 a2, .int .i64 a3]⟩, .int .i64 k] : List Value).length) undef) = fr 19 [(0, (.agg ⟨[(.int .i64 a0), (.int .i64 a1), (.int .i64 a2), (.int .i64 a3)]⟩)), (1, (.int .i64 k))] := by kernel_rfl
theorem from_sim (a0 a1 a2 a3 k : Int) : Sim Try.prog 27 [.agg ⟨[.int .i64 a0, .int .i64 a1, .int .i64 a2, .int .i64 a3]⟩, .int .i64 k] [] fun v _ => v = .int .i64 (fromB ⟨a0, a1, a2, a3⟩ k) := by
  refine wp_sim' mixed (Γ := Plain.env [] noEnv) (Plain.ok .nil noEnv_ok) (Plain.quiet noEnv_quiet) st27 ?_
  rw [start27, show il27.res = [.tmp 4] from rfl]
  have fin : ∀ (v : Int) h', v = fromB ⟨a0, a1, a2, a3⟩ k → outP (fun e s h' => (e = .normal ∨ e = .ret) ∧ ∃ v, resA s h' [.tmp 4] = some v ∧ v = .int .i64 (fromB ⟨a0, a1, a2, a3⟩ k)) (pk .ret (fr 19 [(4, (.int .i64 v))])) h' := fun v h' hv => outP_pk ⟨.inr rfl, _, rfl, by rw [hv]; rfl⟩
  by_cases c0 : k ≤ 0
  · refine Wp.piece 100 (hn27i0 a0 a1 a2 a3 k) ?_
    rw [tree27i0]
    exact ⟨mx_ok _ _ _ _ (by split <;> omega), fin _ _ (by simp [fromB, c0])⟩
  by_cases c1 : k = 1
  · refine Wp.piece 100 (hn27i1 a0 a1 a2 a3 k) ?_
    rw [tree27i1]
    exact ⟨mx_ok _ _ _ _ (by split <;> omega), fin _ _ (by simp [fromB, c1])⟩
  by_cases c2 : k = 2
  · refine Wp.piece 100 (hn27i2 a0 a1 a2 a3 k) ?_
    rw [tree27i2]
    exact ⟨mx_ok _ _ _ _ (by split <;> omega), fin _ _ (by simp [fromB, c2])⟩
  by_cases c3 : k = 3
  · refine Wp.piece 100 (hn27i3 a0 a1 a2 a3 k) ?_
    rw [tree27i3]
    exact ⟨mx_ok _ _ _ _ (by split <;> omega), fin _ _ (by simp [fromB, c3])⟩
  refine Wp.piece 100 (hn27i4 a0 a1 a2 a3 k) ?_
  rw [tree27i4]
  exact ⟨mx_ok _ _ _ _ (by split <;> omega), by simp; omega, fin _ _ (by simp [fromB, c0, c1, c2, c3])⟩
theorem ok27 : PlainOk Try.prog tbl27 := .cons (fun args v e => by
  unfold sFrom at e
  split at e
  · rename_i a k
    split at e
    · rename_i p q r s h1
      cases e
      obtain ⟨l⟩ := a
      have e1 := intsOf_eq h1
      dsimp only at e1
      subst e1
      refine ⟨rfl, rfl, ?_⟩
      exact from_sim p q r s k
    · cases e
  · cases e) .nil
theorem all_sim (a0 a1 a2 a3 : Int) : Sim Try.prog 28 [.agg ⟨[.int .i64 a0, .int .i64 a1, .int .i64 a2, .int .i64 a3]⟩] [] fun v _ => v = .int .i64 (fromB ⟨a0, a1, a2, a3⟩ 0) := by
  refine fnU_sim mixed (Plain.ok ok27 noEnv_ok) (Plain.quiet noEnv_quiet) st28 (fuel := 100) (hn := hn28) ?_
  rw [tree28]
  exact ⟨rfl, rfl⟩
def tblC : Plain := (28, sAll) :: (27, sFrom) :: tblB
theorem okC : PlainOk Try.prog tblC := .cons (fun args v e => by
  unfold sAll at e
  split at e
  · rename_i a
    split at e
    · rename_i p q r s h1
      cases e
      obtain ⟨l⟩ := a
      have e1 := intsOf_eq h1
      dsimp only at e1
      subst e1
      refine ⟨rfl, rfl, ?_⟩
      exact all_sim p q r s
    · cases e
  · cases e) <| .cons (ok27 27) okB
/-! ### The balance -/
abbrev fr29 (s : Value) (n a i : Int) : Fr := fr 18 [(2, (.int .i64 0)), (3, (.int .i64 a)), (6, s), (7, (.int .i64 n)), (8, (.int .i64 i))]
structure In29 (h0 H : Heap) : Prop where
  old : H.take h0.length = h0
  len : h0.length ≤ H.length
def inv29 (h0 : Heap) (s : Value) (rows : List Lo) (m : Nat) (t : Fr) (H : Heap) : Prop :=
  ∃ i : Nat, i + m = rows.length ∧ t = fr29 s rows.length (bal (rows.take i)) i ∧ In29 h0 H
theorem loop29 {h0 : Heap} {s : Value} {rows : List Lo} (hs : RowsAt 5 h0 s (rows.map Lo.enc)) (hl : rows.length ≤ 1099511627776) :
    Wp (Plain.env tblB noEnv) (inL [2, 3]) (.block 0 (.loop body29_0)) (fr29 s rows.length 0 0) h0 fun e t H => e = .normal ∧ t = fr 18 [(2, (.int .i64 0)), (3, (.int .i64 (bal rows)))] ∧ In29 h0 H := by
  refine Wp.block ((Wp.loop (K := fun e t H => e = .exit 0 ∧ t = fr29 s rows.length (bal rows) rows.length ∧ In29 h0 H) (inv29 h0 s rows) ?_ rows.length _ _ ⟨0, by omega, rfl, ⟨List.take_length, Nat.le_refl _⟩⟩).ends fun e t H ⟨q1, q2, q3⟩ => ?_)
  · rintro m t H ⟨i, hi, ht, hI⟩
    subst ht
    cases m with
    | zero =>
      have hkl : i = rows.length := by omega
      subst hkl
      refine Wp.piece 100 (hn29t s (.bool false) rows.length rows.length (bal (rows.take rows.length)) 0 0 0 0 false H) ?_
      rw [tree29t]
      exact ⟨fun q => by simp at q, fun _ => outP_pk ⟨rfl, by rw [List.take_length], hI⟩⟩
    | succ m =>
      have hlt : i < rows.length := by omega
      have hx : rows[i]? = some rows[i] := List.getElem?_eq_getElem hlt
      generalize rows[i] = x at hx
      obtain ⟨q, hq1, hq2, _⟩ := (hs.more fun B blk e => rd_take hI.old e).at_ (i := i) (row := x.enc) (by rw [List.getElem?_map, hx]; rfl)
      have wi : IntKind.wrap .i64 ((i : Int) + 1) = ((i + 1 : Nat) : Int) := by rw [wrap_id (by omega) (by omega)]; rfl
      refine Wp.piece 100 (hn29t s q rows.length i (bal (rows.take i)) x.a x.b x.c x.m x.d H) ?_
      rw [tree29t, wi]
      refine ⟨fun _ => ⟨hq1 _ _, hq2 _, st_ (rd_last rfl) (by intro q; cases q) rfl rfl (by simp) rfl (set_last rfl), ld1 (rd_last rfl) rfl, outP_pk ⟨m, by omega, i + 1, by omega, by rw [bal_take hx], take_app hI.old hI.len, by have := hI.len; simp; omega⟩⟩, fun q => by simp at q; omega⟩
  · subst q1 q2
    exact ⟨_, norm_ag (inL [2, 3]) _, rfl, by kernel_rfl, q3⟩
theorem start29 (s : Value) : (([s] : List Value) ++ List.replicate (il29.ntmps - ([s] : List Value).length) undef) = fr 18 [(0, s)] := by kernel_rfl
theorem sim29 {h0 : Heap} {s : Value} {rows : List Lo} (hs : RowsAt 5 h0 s (rows.map Lo.enc)) (hl : rows.length ≤ 1099511627776) : Sim Try.prog 29 [s] h0 fun v h' => v = .int .i64 (bal rows) ∧ h' = h0 := by
  refine Sim.keep ?_ (fun v hv => by subst hv; rfl)
  refine wp_sim' mixed (Plain.ok okB noEnv_ok) (Plain.quiet noEnv_quiet) st29 ?_
  rw [start29, show il29.res = [.tmp 2] from rfl, show il29.body = il29a from rfl]
  obtain ⟨e, t, H1, ⟨k1, k2, k3⟩, w⟩ := (loop29 hs hl).exact
  subst k1 k2
  refine Wp.piece 100 (hn29a s rows.length (bal rows) h0 H1) ?_
  rw [tree29a]
  exact ⟨by have := hs.len (Γ := Plain.env tblB noEnv) (H := h0); rw [List.length_map] at this; exact this, w, outP_pk ⟨.inr rfl, _, rfl, rfl, k3.len, k3.old⟩⟩
/-! ### How they hang together -/
def addBu (x y : Bu) : Bu := ⟨IntKind.wrap .i64 (x.p + y.p), IntKind.wrap .i64 (x.q + y.q), IntKind.wrap .i64 (x.r + y.r), IntKind.wrap .i64 (x.s + y.s)⟩
structure FitB (x : Bu) : Prop where
  p : IntKind.wrap .i64 x.p = x.p
  q : IntKind.wrap .i64 x.q = x.q
  r : IntKind.wrap .i64 x.r = x.r
  s : IntKind.wrap .i64 x.s = x.s
theorem wrap_w (x : Int) : IntKind.wrap .i64 (IntKind.wrap .i64 x) = IntKind.wrap .i64 x := by have := wrap_l x 0; simpa using this
theorem fit_add {t : Bu} (h : FitB t) (k : Nat) (x : Int) : FitB (addB t k x) := by
  obtain ⟨a, b, c, d⟩ := h
  unfold addB
  split
  · exact ⟨wrap_w _, b, c, d⟩
  · exact ⟨a, wrap_w _, c, d⟩
  · exact ⟨a, b, wrap_w _, d⟩
  · exact ⟨a, b, c, wrap_w _⟩
theorem fit_fold : ∀ (l : List Lo) (t : Bu), FitB t → FitB (l.foldl (fun t x => addB t (bkN x.m) x.b) t)
  | [], _, h => h
  | a :: l, t, h => fit_fold l _ (fit_add h _ _)
theorem fit_buc (l : List Lo) : FitB (buc l) := fit_fold l zeroB ⟨by decide, by decide, by decide, by decide⟩
theorem add_add (t u : Bu) (k : Nat) (x : Int) (h : FitB t) (hu : FitB u) : addB (addBu t u) k x = addBu t (addB u k x) := by
  unfold addB
  split <;> simp only [addBu, wrap_l, wrap_r, Int.add_assoc]
theorem buc_fold : ∀ (b : List Lo) (t u : Bu), FitB t → FitB u → b.foldl (fun t x => addB t (bkN x.m) x.b) (addBu t u) = addBu t (b.foldl (fun t x => addB t (bkN x.m) x.b) u)
  | [], _, _, _, _ => rfl
  | a :: b, t, u, ht, hu => by
    show b.foldl _ (addB (addBu t u) (bkN a.m) a.b) = addBu t (b.foldl _ (addB u (bkN a.m) a.b))
    rw [add_add t u _ _ ht hu]
    exact buc_fold b t _ ht (fit_add hu _ _)
theorem buc_app (a b : List Lo) : buc (a ++ b) = addBu (buc a) (buc b) := by
  have h := fit_buc a
  have hz : addBu (buc a) zeroB = buc a := by
    obtain ⟨p, q, r, s⟩ := h
    generalize buc a = t at *
    simp only [addBu, zeroB, Int.add_zero, p, q, r, s]
  have := buc_fold b (buc a) zeroB h ⟨by decide, by decide, by decide, by decide⟩
  rw [hz] at this
  rw [buc, List.foldl_append]
  exact this
theorem from_add (t : Bu) (k : Nat) (x : Int) : fromB (addB t k x) 0 = IntKind.wrap .i64 (fromB t 0 + x) := by
  unfold addB
  split <;> (simp only [fromB, Int.le_refl, if_true, wrap_l, wrap_r, Int.zero_add]; congr 1)
  all_goals first
    | omega
    | skip
theorem from_bal : ∀ (l : List Lo) (t : Bu) (s : Int), fromB t 0 = s → fromB (l.foldl (fun t x => addB t (bkN x.m) x.b) t) 0 = l.foldl (fun t x => IntKind.wrap .i64 (t + x.b)) s
  | [], _, _, h => h
  | a :: l, t, s, h => from_bal l _ _ (by rw [from_add, h])
theorem all_bal (l : List Lo) : fromB (buc l) 0 = bal l := from_bal l zeroB 0 (by decide)
end Go.Proofs.Ytjnppjipoibbeaa.Buck
