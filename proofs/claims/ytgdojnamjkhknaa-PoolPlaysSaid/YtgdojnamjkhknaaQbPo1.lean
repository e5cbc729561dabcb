/-
  pool: what a line does to a loan; where a loan stands.
-/
import Derived.Test.YtgdojnamjkhknaaQbTp
import Derived.Test.YtgdojnamjkhknaaQbLl
namespace Go.Proofs.Ytgdojnamjkhknaa
open Go.Am
set_option linter.all false
set_option maxRecDepth 100000
namespace PO
structure L5 where
 a : Int
 b : Int
 c : Int
 d : Int
 e : Bool
structure A4 where
 p : Int
 i : Int
 l : Int
 r : Int
def e5 (x : L5) : List Value := [.int .i64 x.a, .int .i64 x.b, .int .i64 x.c, .int .i64 x.d, .bool x.e]
def e4 (x : A4) : List Value := [.int .i64 x.p, .int .i64 x.i, .int .i64 x.l, .int .i64 x.r]
theorem e5_1 (x y : L5) (h : e5 x = e5 y) : x = y := by cases x; cases y; simpa [e5] using h
theorem e5_w (x : L5) : (e5 x).length = 5 := rfl
abbrev wr (n : Int) : Int := IntKind.wrap .i64 n
def mayF (x : L5) (y : R7) : Bool :=
 if x.e then y.b == 0 && y.c == 0 && y.d == 0 && y.f == 0 && !y.g && decide (y.e ≤ x.c)
 else if wr (wr (x.b - y.b) - y.c) < 0 then false
 else (y.g && decide (y.e ≤ wr (x.c + wr (wr (x.b - y.b) - y.c)))) || y.e == 0
def doneF (x : L5) (y : R7) : L5 × A4 :=
 if y.g then (⟨x.a, 0, wr (wr (x.c + wr (x.b - wr (y.b + y.c))) - y.e), 0, true⟩, ⟨wr (y.b + y.c), y.d, wr (x.b - wr (y.b + y.c)), y.e⟩)
 else (⟨x.a, wr (x.b - wr (y.b + y.c)), wr (x.c - y.e), if x.e || wr (x.b - wr (y.b + y.c)) == 0 then 0 else y.f, x.e⟩, ⟨wr (y.b + y.c), y.d, 0, y.e⟩)
namespace V
open WB (gE cE gE_ok gE_q cE_ok)
def il85 : FnIL := ⟨65, [.tmp 4], .seq (.reg [ oT 2 (.box (.tmp 0)), oT 3 (.box (.tmp 1)), oT 4 (.mov (.const (.bool false)))]) (.seq (.seq (.reg [ oT 6 (.fadr 4 (.tmp 2)), oT 7 (.load (.tmp 6) none)]) (.ite (.tmp 7) (.seq (.reg [ oT 8 (.fadr 1 (.tmp 3)), oT 9 (.load (.tmp 8) none), oT 10 (.bin .eql (.tmp 9) (kI 0)), oT 11 (.mov (.tmp 10)), ⟨(some 12), (some (11, true)), .fadr 2 (.tmp 3)⟩, ⟨(some 13), (some (11, true)), .load (.tmp 12) none⟩, ⟨(some 14), (some (11, true)), .bin .eql (.tmp 13) (kI 0)⟩, oT 15 (.pick (.tmp 11) (.tmp 14) (.const (.bool false))), oT 16 (.mov (.tmp 15)), ⟨(some 17), (some (16, true)), .fadr 3 (.tmp 3)⟩, ⟨(some 18), (some (16, true)), .load (.tmp 17) none⟩, ⟨(some 19), (some (16, true)), .bin .eql (.tmp 18) (kI 0)⟩, oT 20 (.pick (.tmp 16) (.tmp 19) (.const (.bool false))), oT 21 (.mov (.tmp 20)), ⟨(some 22), (some (21, true)), .fadr 5 (.tmp 3)⟩, ⟨(some 23), (some (21, true)), .load (.tmp 22) none⟩, ⟨(some 24), (some (21, true)), .bin .eql (.tmp 23) (kI 0)⟩, oT 25 (.pick (.tmp 21) (.tmp 24) (.const (.bool false))), oT 26 (.mov (.tmp 25)), ⟨(some 27), (some (26, true)), .fadr 6 (.tmp 3)⟩, ⟨(some 28), (some (26, true)), .load (.tmp 27) none⟩, ⟨(some 29), (some (26, true)), .un .not (.tmp 28)⟩, oT 30 (.pick (.tmp 26) (.tmp 29) (.const (.bool false))), oT 31 (.mov (.tmp 30)), ⟨(some 32), (some (31, true)), .fadr 4 (.tmp 3)⟩, ⟨(some 33), (some (31, true)), .load (.tmp 32) none⟩, ⟨(some 34), (some (31, true)), .fadr 2 (.tmp 2)⟩, ⟨(some 35), (some (31, true)), .load (.tmp 34) none⟩, ⟨(some 36), (some (31, true)), .bin .leq (.tmp 33) (.tmp 35)⟩, oT 37 (.pick (.tmp 31) (.tmp 36) (.const (.bool false))), oT 4 (.mov (.tmp 37))]) (.ret)) (.skip))) (.seq (.reg [ oT 38 (.fadr 0 (.tmp 2)), oT 39 (.fadr 1 (.tmp 38)), oT 40 (.load (.tmp 39) none), oT 41 (.fadr 1 (.tmp 3)), oT 42 (.load (.tmp 41) none), oT 43 (.bin .sub (.tmp 40) (.tmp 42)), oT 44 (.fadr 2 (.tmp 3)), oT 45 (.load (.tmp 44) none), oT 46 (.bin .sub (.tmp 43) (.tmp 45)), oT 5 (.mov (.tmp 46))]) (.seq (.seq (.reg [ oT 47 (.mov (.tmp 5)), oT 48 (.bin .lss (.tmp 47) (kI 0))]) (.ite (.tmp 48) (.seq (.reg [ oT 4 (.mov (.const (.bool false)))]) (.ret)) (.skip))) (.seq (.reg [ oT 49 (.fadr 6 (.tmp 3)), oT 50 (.load (.tmp 49) none), oT 51 (.mov (.tmp 50)), ⟨(some 52), (some (51, true)), .fadr 4 (.tmp 3)⟩, ⟨(some 53), (some (51, true)), .load (.tmp 52) none⟩, ⟨(some 54), (some (51, true)), .fadr 2 (.tmp 2)⟩, ⟨(some 55), (some (51, true)), .load (.tmp 54) none⟩, ⟨(some 56), (some (51, true)), .mov (.tmp 5)⟩, ⟨(some 57), (some (51, true)), .bin .add (.tmp 55) (.tmp 56)⟩, ⟨(some 58), (some (51, true)), .bin .leq (.tmp 53) (.tmp 57)⟩, oT 59 (.pick (.tmp 51) (.tmp 58) (.const (.bool false))), oT 60 (.mov (.tmp 59)), ⟨(some 61), (some (60, false)), .fadr 4 (.tmp 3)⟩, ⟨(some 62), (some (60, false)), .load (.tmp 61) none⟩, ⟨(some 63), (some (60, false)), .bin .eql (.tmp 62) (kI 0)⟩, oT 64 (.pick (.tmp 60) (.const (.bool true)) (.tmp 63)), oT 4 (.mov (.tmp 64))]) (.ret)))))⟩
theorem st85 : stF Try.prog qt 85 = some il85 := by kernel_rfl
def hn85 (x0 x1 x2 x3 : Int) (xb : Bool) (y0 y1 y2 y3 y4 y5 : Int) (yb : Bool) : Hs := (.sym (.join 4 (.con (.con (.con (.con .nil)))) (.con (.con (.con (.con .nil)))) (.join 4 (.con (.con (.con (.con .nil)))) (.con (.con (.con (.con .nil)))) (.join 4 (.con (.con (.con (.con .nil)))) (.con (.con (.con (.con .nil)))) (.join 4 (.con (.con (.con (.con .nil)))) (.con (.con (.con (.con .nil)))) (.join 6 (.con (.con (.con (.con (.con (.con .nil)))))) (.con (.con (.con (.con (.con (.con .nil)))))) .nil))))) (.sym .nil (.join 8 (.con (.con (.con (.con (.con (.con (.con (.con .nil)))))))) (.con (.con (.con (.con (.con (.con (.con (.con .nil)))))))) (.join 4 (.con (.con (.con (.con .nil)))) (.con (.con (.con (.con .nil)))) .nil))))
theorem tree85 (x0 x1 x2 x3 : Int) (xb : Bool) (y0 y1 y2 y3 y4 y5 : Int) (yb : Bool) : fnS [] (gE 0) (cE 0) 300 il85 (hn85 x0 x1 x2 x3 xb y0 y1 y2 y3 y4 y5 yb) [(.raw (.agg ⟨[(.int .i64 x0), (.int .i64 x1), (.int .i64 x2), (.int .i64 x3), (.bool xb)]⟩)), (.raw (.agg ⟨[(.int .i64 y0), (.int .i64 y1), (.int .i64 y2), (.int .i64 y3), (.int .i64 y4), (.int .i64 y5), (.bool yb)]⟩))] [] =
(.br xb
 (.req (bif (y1 == 0) then true else true) (.req (bif (bif (y1 == 0) then (y2 == 0) else false) then true else true) (.req (bif (bif (bif (y1 == 0) then (y2 == 0) else false) then (y3 == 0) else false) then true else true) (.req (bif (bif (bif (bif (y1 == 0) then (y2 == 0) else false) then (y3 == 0) else false) then (y5 == 0) else false) then true else true) (.req (bif (bif (bif (bif (bif (y1 == 0) then (y2 == 0) else false) then (y3 == 0) else false) then (y5 == 0) else false) then (!yb) else false) then true else true) (.ret .ret [(sB (bif (bif (bif (bif (bif (y1 == 0) then (y2 == 0) else false) then (y3 == 0) else false) then (y5 == 0) else false) then (!yb) else false) then (decide (y4 ≤ x2)) else false))] [.blk .fix [(sI x0), (sI x1), (sI x2), (sI x3), (sB xb)], .blk .fix [(sI y0), (sI y1), (sI y2), (sI y3), (sI y4), (sI y5), (sB yb)]]))))))
 (.br (decide ((IntKind.wrap .i64 ((IntKind.wrap .i64 (x1 - y1)) - y2)) < 0))
 (.ret .ret [(sB false)] [.blk .fix [(sI x0), (sI x1), (sI x2), (sI x3), (sB xb)], .blk .fix [(sI y0), (sI y1), (sI y2), (sI y3), (sI y4), (sI y5), (sB yb)]])
 (.req (bif yb then true else true) (.req (bif (bif yb then (decide (y4 ≤ (IntKind.wrap .i64 (x2 + (IntKind.wrap .i64 ((IntKind.wrap .i64 (x1 - y1)) - y2)))))) else false) then true else true) (.ret .ret [(sB (bif (bif yb then (decide (y4 ≤ (IntKind.wrap .i64 (x2 + (IntKind.wrap .i64 ((IntKind.wrap .i64 (x1 - y1)) - y2)))))) else false) then true else (y4 == 0)))] [.blk .fix [(sI x0), (sI x1), (sI x2), (sI x3), (sB xb)], .blk .fix [(sI y0), (sI y1), (sI y2), (sI y3), (sI y4), (sI y5), (sB yb)]]))))) := by kernel_rfl
def il86 : FnIL := ⟨61, [.cell 4 (some 5), .cell 5 (some 4)], .seq (.reg [ oT 2 (.box (.tmp 0)), oT 3 (.box (.tmp 1)), oT 4 (.alloc [(.int .i64 0), (.int .i64 0), (.int .i64 0), (.int .i64 0), (.bool false)]), oT 5 (.alloc [(.int .i64 0), (.int .i64 0), (.int .i64 0), (.int .i64 0)])]) (.seq (.reg [ oT 7 (.fadr 1 (.tmp 3)), oT 8 (.load (.tmp 7) none), oT 9 (.fadr 2 (.tmp 3)), oT 10 (.load (.tmp 9) none), oT 11 (.bin .add (.tmp 8) (.tmp 10)), oT 12 (.fadr 3 (.tmp 3)), oT 13 (.load (.tmp 12) none), oT 14 (.fadr 4 (.tmp 3)), oT 15 (.load (.tmp 14) none), oT 16 (.build [(.int .i64 0), (.int .i64 0), (.int .i64 0), (.int .i64 0)] [(0, 1, (.tmp 11)), (1, 1, (.tmp 13)), (3, 1, (.tmp 15))]), oT 6 (.alloc [(.int .i64 0), (.int .i64 0), (.int .i64 0), (.int .i64 0)]), oN (.store (.tmp 6) (.tmp 16) 4)]) (.seq (.reg [ oT 17 (.fadr 0 (.tmp 2)), oT 18 (.fadr 1 (.tmp 17)), oT 19 (.load (.tmp 18) none), oT 20 (.fadr 0 (.tmp 6)), oT 21 (.load (.tmp 20) none), oT 22 (.bin .sub (.tmp 19) (.tmp 21)), oT 23 (.fadr 0 (.tmp 2)), oT 24 (.fadr 1 (.tmp 23)), oN (.store (.tmp 24) (.tmp 22) 1)]) (.seq (.seq (.reg [ oT 25 (.fadr 6 (.tmp 3)), oT 26 (.load (.tmp 25) none)]) (.ite (.tmp 26) (.seq (.reg [ oT 27 (.fadr 0 (.tmp 2)), oT 28 (.fadr 1 (.tmp 27)), oT 29 (.load (.tmp 28) none), oT 30 (.fadr 2 (.tmp 6)), oN (.store (.tmp 30) (.tmp 29) 1)]) (.seq (.reg [ oT 31 (.fadr 2 (.tmp 2)), oT 32 (.load (.tmp 31) none), oT 33 (.fadr 0 (.tmp 2)), oT 34 (.fadr 1 (.tmp 33)), oT 35 (.load (.tmp 34) none), oT 36 (.bin .add (.tmp 32) (.tmp 35)), oT 37 (.fadr 2 (.tmp 2)), oN (.store (.tmp 37) (.tmp 36) 1)]) (.reg [ oT 38 (.fadr 0 (.tmp 2)), oT 39 (.fadr 1 (.tmp 38)), oN (.store (.tmp 39) (kI 0) 1), oT 40 (.fadr 4 (.tmp 2)), oN (.store (.tmp 40) (.const (.bool true)) 1)]))) (.skip))) (.seq (.reg [ oT 41 (.fadr 2 (.tmp 2)), oT 42 (.load (.tmp 41) none), oT 43 (.fadr 4 (.tmp 3)), oT 44 (.load (.tmp 43) none), oT 45 (.bin .sub (.tmp 42) (.tmp 44)), oT 46 (.fadr 2 (.tmp 2)), oN (.store (.tmp 46) (.tmp 45) 1)]) (.seq (.reg [ oT 47 (.fadr 5 (.tmp 3)), oT 48 (.load (.tmp 47) none), oT 49 (.fadr 3 (.tmp 2)), oN (.store (.tmp 49) (.tmp 48) 1)]) (.seq (.seq (.reg [ oT 50 (.fadr 4 (.tmp 2)), oT 51 (.load (.tmp 50) none), oT 52 (.mov (.tmp 51)), ⟨(some 53), (some (52, false)), .fadr 0 (.tmp 2)⟩, ⟨(some 54), (some (52, false)), .fadr 1 (.tmp 53)⟩, ⟨(some 55), (some (52, false)), .load (.tmp 54) none⟩, ⟨(some 56), (some (52, false)), .bin .eql (.tmp 55) (kI 0)⟩, oT 57 (.pick (.tmp 52) (.const (.bool true)) (.tmp 56))]) (.ite (.tmp 57) (.reg [ oT 58 (.fadr 3 (.tmp 2)), oN (.store (.tmp 58) (kI 0) 1)]) (.skip))) (.seq (.dreg [ oT 59 (.load (.tmp 2) (some 5)), oT 60 (.load (.tmp 6) (some 4)), oN (.store (.tmp 4) (.tmp 59) 5), oN (.store (.tmp 5) (.tmp 60) 4)] [(1, 2)]) (.ret))))))))⟩
theorem st86 : stF Try.prog qt 86 = some il86 := by kernel_rfl
def hn86 (x0 x1 x2 x3 : Int) (xb : Bool) (y0 y1 y2 y3 y4 y5 : Int) (yb : Bool) : Hs := (.sym (.con (.con (.con (.con (.con (.con .nil)))))) (.join 5 (.con (.con (.con (.con (.con .nil))))) (.con (.con (.con (.con (.con .nil))))) (.sym .nil .nil)))
theorem tree86 (x0 x1 x2 x3 : Int) (xb : Bool) (y0 y1 y2 y3 y4 y5 : Int) (yb : Bool) : fnS [] (gE 0) (cE 0) 300 il86 (hn86 x0 x1 x2 x3 xb y0 y1 y2 y3 y4 y5 yb) [(.raw (.agg ⟨[(.int .i64 x0), (.int .i64 x1), (.int .i64 x2), (.int .i64 x3), (.bool xb)]⟩)), (.raw (.agg ⟨[(.int .i64 y0), (.int .i64 y1), (.int .i64 y2), (.int .i64 y3), (.int .i64 y4), (.int .i64 y5), (.bool yb)]⟩))] [] =
(.br yb
 (.req (((decide ((IntKind.wrap .i64 (y1 + y2)) = (IntKind.wrap .i64 (y1 + y2)))) && ((decide (y3 = y3)) && ((decide ((IntKind.wrap .i64 (x1 - (IntKind.wrap .i64 (y1 + y2)))) = (IntKind.wrap .i64 (x1 - (IntKind.wrap .i64 (y1 + y2)))))) && ((decide (y4 = y4)) && true)))) && true) (.ret .ret [(.raw (.tuple ⟨[(.agg ⟨[(.int .i64 x0), (.int .i64 0), (.int .i64 (IntKind.wrap .i64 ((IntKind.wrap .i64 (x2 + (IntKind.wrap .i64 (x1 - (IntKind.wrap .i64 (y1 + y2)))))) - y4))), (.int .i64 0), (.bool true)]⟩), (.agg ⟨[(.int .i64 (IntKind.wrap .i64 (y1 + y2))), (.int .i64 y3), (.int .i64 (IntKind.wrap .i64 (x1 - (IntKind.wrap .i64 (y1 + y2))))), (.int .i64 y4)]⟩)]⟩))] [.blk .fix [(sI x0), (sI 0), (sI (IntKind.wrap .i64 ((IntKind.wrap .i64 (x2 + (IntKind.wrap .i64 (x1 - (IntKind.wrap .i64 (y1 + y2)))))) - y4))), (sI 0), (sB true)], .blk .fix [(sI y0), (sI y1), (sI y2), (sI y3), (sI y4), (sI y5), (sB yb)], .blk .fix [(sI x0), (sI 0), (sI (IntKind.wrap .i64 ((IntKind.wrap .i64 (x2 + (IntKind.wrap .i64 (x1 - (IntKind.wrap .i64 (y1 + y2)))))) - y4))), (sI 0), (sB true)], .blk .fix [(sI (IntKind.wrap .i64 (y1 + y2))), (sI y3), (sI (IntKind.wrap .i64 (x1 - (IntKind.wrap .i64 (y1 + y2))))), (sI y4)], .blk .fix [(sI (IntKind.wrap .i64 (y1 + y2))), (sI y3), (sI (IntKind.wrap .i64 (x1 - (IntKind.wrap .i64 (y1 + y2))))), (sI y4)]]))
 (.req (bif xb then true else true) (.br (bif xb then true else ((IntKind.wrap .i64 (x1 - (IntKind.wrap .i64 (y1 + y2)))) == 0))
 (.req (((decide ((IntKind.wrap .i64 (y1 + y2)) = (IntKind.wrap .i64 (y1 + y2)))) && ((decide (y3 = y3)) && ((decide (y4 = y4)) && true))) && true) (.ret .ret [(.raw (.tuple ⟨[(.agg ⟨[(.int .i64 x0), (.int .i64 (IntKind.wrap .i64 (x1 - (IntKind.wrap .i64 (y1 + y2))))), (.int .i64 (IntKind.wrap .i64 (x2 - y4))), (.int .i64 0), (.bool xb)]⟩), (.agg ⟨[(.int .i64 (IntKind.wrap .i64 (y1 + y2))), (.int .i64 y3), (.int .i64 0), (.int .i64 y4)]⟩)]⟩))] [.blk .fix [(sI x0), (sI (IntKind.wrap .i64 (x1 - (IntKind.wrap .i64 (y1 + y2))))), (sI (IntKind.wrap .i64 (x2 - y4))), (sI 0), (sB xb)], .blk .fix [(sI y0), (sI y1), (sI y2), (sI y3), (sI y4), (sI y5), (sB yb)], .blk .fix [(sI x0), (sI (IntKind.wrap .i64 (x1 - (IntKind.wrap .i64 (y1 + y2))))), (sI (IntKind.wrap .i64 (x2 - y4))), (sI 0), (sB xb)], .blk .fix [(sI (IntKind.wrap .i64 (y1 + y2))), (sI y3), (sI 0), (sI y4)], .blk .fix [(sI (IntKind.wrap .i64 (y1 + y2))), (sI y3), (sI 0), (sI y4)]]))
 (.req (((decide ((IntKind.wrap .i64 (y1 + y2)) = (IntKind.wrap .i64 (y1 + y2)))) && ((decide (y3 = y3)) && ((decide (y4 = y4)) && true))) && true) (.ret .ret [(.raw (.tuple ⟨[(.agg ⟨[(.int .i64 x0), (.int .i64 (IntKind.wrap .i64 (x1 - (IntKind.wrap .i64 (y1 + y2))))), (.int .i64 (IntKind.wrap .i64 (x2 - y4))), (.int .i64 y5), (.bool xb)]⟩), (.agg ⟨[(.int .i64 (IntKind.wrap .i64 (y1 + y2))), (.int .i64 y3), (.int .i64 0), (.int .i64 y4)]⟩)]⟩))] [.blk .fix [(sI x0), (sI (IntKind.wrap .i64 (x1 - (IntKind.wrap .i64 (y1 + y2))))), (sI (IntKind.wrap .i64 (x2 - y4))), (sI y5), (sB xb)], .blk .fix [(sI y0), (sI y1), (sI y2), (sI y3), (sI y4), (sI y5), (sB yb)], .blk .fix [(sI x0), (sI (IntKind.wrap .i64 (x1 - (IntKind.wrap .i64 (y1 + y2))))), (sI (IntKind.wrap .i64 (x2 - y4))), (sI y5), (sB xb)], .blk .fix [(sI (IntKind.wrap .i64 (y1 + y2))), (sI y3), (sI 0), (sI y4)], .blk .fix [(sI (IntKind.wrap .i64 (y1 + y2))), (sI y3), (sI 0), (sI y4)]]))))) := by kernel_rfl
theorem sim85 (x : L5) (y : R7) : Sim Try.prog 85 [.agg ⟨e5 x⟩, .agg ⟨e7 y⟩] [] fun v _ => v = .bool (mayF x y) := by
 have := fnS_tree (Q := fun v _ => v = .bool (mayF x y)) mixed (gE_ok 0) (gE_q 0) (cE_ok 0) st85 (tree85 x.a x.b x.c x.d x.e y.a y.b y.c y.d y.e y.f y.g) ⟨rfl, rfl⟩ (by
  refine ⟨fun q => ⟨bif_tt _, bif_tt _, bif_tt _, bif_tt _, bif_tt _, ?_⟩, fun q => ⟨fun q2 => ?_, fun q2 => ⟨bif_tt _, bif_tt _, ?_⟩⟩⟩
  ·show Value.bool _ = _
   congr 1
   unfold mayF
   rw [if_pos q]
   cases y.b == 0 <;> cases y.c == 0 <;> cases y.d == 0 <;> cases y.f == 0 <;> cases y.g <;> simp
  ·show Value.bool _ = _
   congr 1
   unfold mayF
   rw [if_neg (by simp [q]), if_pos (by simpa using q2)]
  ·show Value.bool _ = _
   congr 1
   unfold mayF
   rw [if_neg (by simp [q]), if_neg (by simpa using q2)]
   cases y.g <;> simp)
 simpa [denH, denL, It.den, denF, denV, denA, den0, e5, e7] using this
theorem sim86 (x : L5) (y : R7) : Sim Try.prog 86 [.agg ⟨e5 x⟩, .agg ⟨e7 y⟩] [] fun v _ => v = .tuple ⟨[.agg ⟨e5 (doneF x y).1⟩, .agg ⟨e4 (doneF x y).2⟩]⟩ := by
 have := fnS_tree (Q := fun v _ => v = .tuple ⟨[.agg ⟨e5 (doneF x y).1⟩, .agg ⟨e4 (doneF x y).2⟩]⟩) mixed (gE_ok 0) (gE_q 0) (cE_ok 0) st86 (tree86 x.a x.b x.c x.d x.e y.a y.b y.c y.d y.e y.f y.g) ⟨rfl, rfl⟩ (by
  refine ⟨fun q => ⟨by simp, ?_⟩, fun q => ⟨bif_tt _, fun q2 => ⟨by simp, ?_⟩, fun q2 => ⟨by simp, ?_⟩⟩⟩
  ·have : doneF x y = (⟨x.a, 0, wr (wr (x.c + wr (x.b - wr (y.b + y.c))) - y.e), 0, true⟩, ⟨wr (y.b + y.c), y.d, wr (x.b - wr (y.b + y.c)), y.e⟩) := by unfold doneF; rw [if_pos q]
   rw [this]; rfl
  ·have : doneF x y = (⟨x.a, wr (x.b - wr (y.b + y.c)), wr (x.c - y.e), 0, x.e⟩, ⟨wr (y.b + y.c), y.d, 0, y.e⟩) := by
    unfold doneF; rw [if_neg (by simp [q]), if_pos]
    cases hx : x.e <;> simp_all
   rw [this]; rfl
  ·have : doneF x y = (⟨x.a, wr (x.b - wr (y.b + y.c)), wr (x.c - y.e), y.f, x.e⟩, ⟨wr (y.b + y.c), y.d, 0, y.e⟩) := by
    unfold doneF; rw [if_neg (by simp [q]), if_neg]
    cases hx : x.e <;> simp_all
   rw [this]; rfl)
 simpa [denH, denL, It.den, denF, denV, denA, den0, e5, e7] using this
def s85 : List Value → Option (Bool × Value)
 | [.agg ⟨[.int .i64 a, .int .i64 b, .int .i64 c, .int .i64 d, .bool e]⟩, .agg ⟨[.int .i64 a1, .int .i64 b1, .int .i64 c1, .int .i64 d1, .int .i64 e1, .int .i64 f1, .bool g1]⟩] => some (true, .bool (mayF ⟨a, b, c, d, e⟩ ⟨a1, b1, c1, d1, e1, f1, g1⟩))
 | _ => none
def s86 : List Value → Option (Bool × Value)
 | [.agg ⟨[.int .i64 a, .int .i64 b, .int .i64 c, .int .i64 d, .bool e]⟩, .agg ⟨[.int .i64 a1, .int .i64 b1, .int .i64 c1, .int .i64 d1, .int .i64 e1, .int .i64 f1, .bool g1]⟩] => some (true, .tuple ⟨[.agg ⟨e5 (doneF ⟨a, b, c, d, e⟩ ⟨a1, b1, c1, d1, e1, f1, g1⟩).1⟩, .agg ⟨e4 (doneF ⟨a, b, c, d, e⟩ ⟨a1, b1, c1, d1, e1, f1, g1⟩).2⟩]⟩)
 | _ => none
theorem ok85 : ∀ args v, s85 args = some (true, v) → args.all (belowV 0) = true ∧ belowV 0 v = true ∧ Sim Try.prog 85 args [] fun v1 _ => v1 = v := by
 intro args v e
 unfold s85 at e
 split at e
 ·cases e
  exact ⟨rfl, rfl, sim85 ⟨_, _, _, _, _⟩ ⟨_, _, _, _, _, _, _⟩⟩
 ·cases e
theorem ok86 : ∀ args v, s86 args = some (true, v) → args.all (belowV 0) = true ∧ belowV 0 v = true ∧ Sim Try.prog 86 args [] fun v1 _ => v1 = v := by
 intro args v e
 unfold s86 at e
 split at e
 ·cases e
  exact ⟨rfl, rfl, sim86 ⟨_, _, _, _, _⟩ ⟨_, _, _, _, _, _, _⟩⟩
 ·cases e
end V
def tblP : Plain := [(85, V.s85), (86, V.s86)]
theorem tblP_ok : PlainOk Try.prog tblP := .cons V.ok85 (.cons V.ok86 .nil)
namespace C
open WB (gE cE gE_ok gE_q cE_ok)
def il99 : FnIL := ⟨9, [.tmp 3], .seq (.reg [ oT 2 (.box (.tmp 0)), oT 3 (.mov (.const (.bool false)))]) (.seq (.reg [ oT 4 (.fadr 0 (.tmp 2)), oT 5 (.fadr 0 (.tmp 4)), oT 6 (.load (.tmp 5) none), oT 7 (.load (.tmp 1) none), oT 8 (.bin .eql (.tmp 6) (.tmp 7)), oT 3 (.mov (.tmp 8))]) (.ret))⟩
theorem st99 : stF Try.prog qt 99 = some il99 := by kernel_rfl
def hn99 (x0 x1 x2 x3 : Int) (xb : Bool) (q : Nat) (id : Int) (H : Heap) : Hs := (.bas 7000007 (.int .i64 id) .nil)
theorem tree99 (x0 x1 x2 x3 : Int) (xb : Bool) (q : Nat) (id : Int) (H : Heap) : fnS [] (gE 0) (cE 0) 100 il99 (hn99 x0 x1 x2 x3 xb q id H) [(.raw (.agg ⟨[(.int .i64 x0), (.int .i64 x1), (.int .i64 x2), (.int .i64 x3), (.bool xb)]⟩)), (.raw (.pointer (some ⟨q, 0, none⟩)))] [.seg H] =
(.claim (opA (Plain.env [] (gE 0)) (.load (.const (.pointer (some ⟨q, 0, none⟩))) none) [] H = some ((.int .i64 id), H))
 (.ret .ret [(sB (x0 == id))] [.seg H, .blk .fix [(sI x0), (sI x1), (sI x2), (sI x3), (sB xb)]])) := by kernel_rfl
theorem sim99 {H : Heap} (x : L5) {q : Nat} {id : Int} (hq : rd H q = some ⟨.fix, [.int .i64 id]⟩) : Sim Try.prog 99 [.agg ⟨e5 x⟩, .pointer (some ⟨q, 0, none⟩)] H fun v h' => v = .bool (x.a == id) ∧ h' = H := by
 refine (Sim.plain (R := fun v => v = .bool (x.a == id)) ?_ (fun v hv => by subst hv; rfl)).mono fun v h' q => q
 have := fnS_tree (Q := fun v h' => v = .bool (x.a == id) ∧ ∃ X, h' = H ++ X) mixed (gE_ok 0) (gE_q 0) (cE_ok 0) st99 (tree99 x.a x.b x.c x.d x.e q id H) ⟨rfl, rfl⟩ ⟨ld1 hq rfl, rfl, [some ⟨.fix, e5 x⟩], by simp [denH, denL, It.den, den0, e5]⟩
 simpa [denH, denL, It.den, denF, denV, denA, den0, e5] using this
def pre99 (y : L5 × Int) (args : List Value) (h : Heap) : Prop := ∃ q, args = [.agg ⟨e5 y.1⟩, .pointer (some ⟨q, 0, none⟩)] ∧ rd h q = some ⟨.fix, [.int .i64 y.2]⟩
theorem summ99 : Summ Try.prog 99 (smry pre99 fun y h => (.bool (y.1.a == y.2), h)) := smry_ok fun y args h ⟨q, e, hq⟩ => by subst e; exact sim99 y.1 hq
theorem call99 {h : Heap} (x : L5) {q : Nat} {id : Int} (hq : rd h q = some ⟨.fix, [.int .i64 id]⟩) : smry pre99 (fun y h => (.bool (y.1.a == y.2), h)) [.agg ⟨e5 x⟩, .pointer (some ⟨q, 0, none⟩)] h = some (.bool (x.a == id), h) :=
 smry_some (x := (x, id)) ⟨q, rfl, hq⟩ fun y ⟨q', e, hq'⟩ => by
  simp only [List.cons.injEq, and_true, Value.pointer.injEq, Option.some.injEq, Addr.mk.injEq, Value.agg.injEq] at e
  obtain ⟨e1, rfl⟩ := e
  have h1 : y.1 = x := (e5_1 _ _ (by simpa using e1)).symm
  rw [hq] at hq'
  have h2 : y.2 = id := by simpa using hq'.symm
  rw [h1, h2]
end C
def atI (id : Int) : List L5 → Option Nat
 | [] => none
 | x :: r => if x.a == id then some 0 else (atI id r).map (· + 1)
def atF (id : Int) (l : List L5) : Int := match atI id l with
 | some i => i
 | none => -1
namespace I
noncomputable def g : Env := fun f => match f with
 | 99 => smry C.pre99 fun y h => (.bool (y.1.a == y.2), h)
 | _ => fun _ _ => none
theorem g_ok : EnvOk Try.prog g := fun f => by
 unfold g
 split
 ·exact C.summ99
 ·exact fun args h v h' e => by cases e
theorem g_q : QuietEnv qt g := fun f args h v h' hf e => by cases hf
noncomputable abbrev gE (k : Nat) : Env := inE [] [] k g
noncomputable abbrev cE (k : Nat) : CallS := callS [] [] g 100 k
theorem gE_q (k : Nat) : QuietEnv qt (Plain.env [] (gE k)) := Plain.quiet (inE_quiet g_q (fun f F h => by cases h) k)
theorem gE_ok (k : Nat) : EnvOk Try.prog (Plain.env [] (gE k)) := Plain.ok .nil (inE_ok (qt := qt) mixed .nil .nil (fun f F h => by cases h) g_ok g_q k)
theorem cE_ok (k : Nat) : CallOk (Plain.env [] (gE k)) (cE k) := callS_ok k
def il98 : FnIL := ⟨19, [.tmp 4], .seq (.reg [ oT 4 (.mov (kI 0))]) (.seq (.seq (.reg [ oT 6 (.mov (.tmp 0)), oT 7 (.len (.tmp 6)), oT 8 (.mov (kI 0))]) (.block 0 (.loop (.seq (.reg [ oT 9 (.bin .lss (.tmp 8) (.tmp 7))]) (.seq (.ite (.tmp 9) (.skip) (.exit 0)) (.seq (.block 1 (.seq (.reg [ oT 10 (.mov (.tmp 8)), oT 5 (.mov (.tmp 10))]) (.seq (.reg [ oT 11 (.mov (.tmp 1)), oT 12 (.mov (.tmp 0)), oT 13 (.mov (.tmp 5)), oT 14 (.iadr 5 none (.tmp 12) (.tmp 13)), oT 15 (.load (.tmp 14) (some 5)), oT 16 (.callv (.tmp 11) [(.tmp 15)])]) (.ite (.tmp 16) (.seq (.reg [ oT 17 (.mov (.tmp 5)), oT 4 (.mov (.tmp 17))]) (.ret)) (.skip))))) (.reg [ oT 18 (.bin .add (.tmp 8) (kI 1)), oT 8 (.mov (.tmp 18))]))))))) (.seq (.reg [ oT 4 (.mov (kI (-1)))]) (.ret)))⟩
theorem st98 : stF Try.prog qt 98 = some il98 := by kernel_rfl
def body98_0 : IL := .seq (.reg [ oT 9 (.bin .lss (.tmp 8) (.tmp 7))]) (.seq (.ite (.tmp 9) (.skip) (.exit 0)) (.seq (.block 1 (.seq (.reg [ oT 10 (.mov (.tmp 8)), oT 5 (.mov (.tmp 10))]) (.seq (.reg [ oT 11 (.mov (.tmp 1)), oT 12 (.mov (.tmp 0)), oT 13 (.mov (.tmp 5)), oT 14 (.iadr 5 none (.tmp 12) (.tmp 13)), oT 15 (.load (.tmp 14) (some 5)), oT 16 (.callv (.tmp 11) [(.tmp 15)])]) (.ite (.tmp 16) (.seq (.reg [ oT 17 (.mov (.tmp 5)), oT 4 (.mov (.tmp 17))]) (.ret)) (.skip))))) (.reg [ oT 18 (.bin .add (.tmp 8) (kI 1)), oT 8 (.mov (.tmp 18))])))
def hn98t (s : Option Addr) (n c : Nat) (i x0 x1 x2 x3 : Int) (xb : Bool) (q b1 o1 : Nat) (t : Bool) (H : Heap) : Hs := (.sym (.pur 22000014 (.pointer (some ⟨b1, o1, none⟩)) (.bas 7000015 (.agg ⟨[(.int .i64 x0), (.int .i64 x1), (.int .i64 x2), (.int .i64 x3), (.bool xb)]⟩) (.use 27000016 (sB t) ⟨[], []⟩ (.sym .nil .nil)))) .nil)
theorem tree98t (s : Option Addr) (n c : Nat) (i x0 x1 x2 x3 : Int) (xb : Bool) (q b1 o1 : Nat) (t : Bool) (H : Heap) : pieceS [] (gE 0) (cE 0) 100 (fun i => exL i body98_0 || inL [4] i) body98_0 (hn98t s n c i x0 x1 x2 x3 xb q b1 o1 t H) (frS 19 [(0, (rS s n c)), (1, (.raw (.func (.func 99) #[] #[.pointer (some ⟨q, 0, none⟩)]))), (4, (sI 0)), (7, (sI (n : Int))), (8, (sI i))]) [.seg H] =
(.br (decide (i < (n : Int)))
 (.claim (opA (Plain.env [] (gE 0)) (.iadr 5 none (.const (.slice s n c)) (kI i)) [] [] = some ((.pointer (some ⟨b1, o1, none⟩)), []))
 (.claim (opA (Plain.env [] (gE 0)) (.load (.const (.pointer (some ⟨b1, o1, none⟩))) (some 5)) [] H = some ((.agg ⟨[(.int .i64 x0), (.int .i64 x1), (.int .i64 x2), (.int .i64 x3), (.bool xb)]⟩), H))
 (.claim (opA (Plain.env [] (gE 0)) (.callv (.tmp 11) [(.tmp 15)]) (denF [.seg H] (frS 19 [(0, (rS s n c)), (1, (.raw (.func (.func 99) #[] #[.pointer (some ⟨q, 0, none⟩)]))), (4, (sI 0)), (5, (sI i)), (7, (sI (n : Int))), (8, (sI i)), (9, (sB (decide (i < (n : Int))))), (10, (sI i)), (11, (.raw (.func (.func 99) #[] #[.pointer (some ⟨q, 0, none⟩)]))), (12, (rS s n c)), (13, (sI i)), (14, (.raw (.pointer (some ⟨b1, o1, none⟩)))), (15, (.raw (.agg ⟨[(.int .i64 x0), (.int .i64 x1), (.int .i64 x2), (.int .i64 x3), (.bool xb)]⟩)))])) (denH [.seg H]) = some ((.bool t), denH [.seg H]))
 (.br t
 (.ret .ret (frS 19 [(0, (rS s n c)), (1, (.raw (.func (.func 99) #[] #[.pointer (some ⟨q, 0, none⟩)]))), (4, (sI i)), (7, (sI (n : Int))), (8, (sI i))]) [.seg H])
 (.ret .normal (frS 19 [(0, (rS s n c)), (1, (.raw (.func (.func 99) #[] #[.pointer (some ⟨q, 0, none⟩)]))), (4, (sI 0)), (7, (sI (n : Int))), (8, (sI (IntKind.wrap .i64 (i + 1))))]) [.seg H])))))
 (.ret (.exit 0) (frS 19 [(0, (rS s n c)), (1, (.raw (.func (.func 99) #[] #[.pointer (some ⟨q, 0, none⟩)]))), (4, (sI 0)), (7, (sI (n : Int))), (8, (sI i))]) [.seg H])) := by kernel_rfl
def hn98w (s : Option Addr) (n c : Nat) (q : Nat) (t : Bool) (r : Int) (H : Heap) : Hs := (.lp2 0 [4] t (frS 19 [(4, (sI 0))]) ⟨[], []⟩ (frS 19 [(4, (sI r))]) ⟨[], []⟩ .nil .nil)
theorem tree98w (s : Option Addr) (n c : Nat) (q : Nat) (t : Bool) (r : Int) (H : Heap) : fnS [] (gE 0) (cE 0) 100 il98 (hn98w s n c q t r H) [(rS s n c), (.raw (.func (.func 99) #[] #[.pointer (some ⟨q, 0, none⟩)]))] [.seg H] =
(.claim (Wp (Plain.env [] (gE 0)) (inL [4]) (.block 0 (.loop body98_0)) (denF [.seg H] (frS 19 [(0, (rS s n c)), (1, (.raw (.func (.func 99) #[] #[.pointer (some ⟨q, 0, none⟩)]))), (4, (sI 0)), (7, (sI (n : Int))), (8, (sI 0))])) (denH [.seg H]) fun e_ s_ h_ => if t then e_ = .normal ∧ s_ = denF [.seg H] (frS 19 [(4, (sI 0))]) ∧ h_ = denH [.seg H] else e_ = .ret ∧ s_ = denF [.seg H] (frS 19 [(4, (sI r))]) ∧ h_ = denH [.seg H])
 (.br t
 (.ret .ret [(sI (-1))] [.seg H])
 (.ret .ret [(sI r)] [.seg H]))) := by kernel_rfl
theorem loop {H : Heap} {s : Option Addr} {c q : Nat} {id : Int} {l : List L5} (hs : RowsW 5 H (.slice s l.length c) (l.map e5)) (hq : rd H q = some ⟨.fix, [.int .i64 id]⟩) (hn : l.length ≤ 1099511627776) :
  Wp (Plain.env [] (gE 0)) (inL [4]) (.block 0 (.loop body98_0)) (denF [.seg H] (frS 19 [(0, (rS s l.length c)), (1, (.raw (.func (.func 99) #[] #[.pointer (some ⟨q, 0, none⟩)]))), (4, (sI 0)), (7, (sI (l.length : Int))), (8, (sI 0))])) (denH [.seg H]) fun e t h => h = denH [.seg H] ∧ match atI id l with
   | none => e = .normal ∧ t = denF [.seg H] (frS 19 [(4, (sI 0))])
   | some i => e = .ret ∧ t = denF [.seg H] (frS 19 [(4, (sI i))]) := by
 refine Wp.bl (fun m t h => ∃ (i : Nat), i + m = l.length ∧ t = denF [.seg H] (frS 19 [(0, (rS s l.length c)), (1, (.raw (.func (.func 99) #[] #[.pointer (some ⟨q, 0, none⟩)]))), (4, (sI 0)), (7, (sI (l.length : Int))), (8, (sI i))]) ∧ h = denH [.seg H] ∧ atI id l = (atI id (l.drop i)).map (· + i)) ?_ l.length _ _ ⟨0, by omega, by show denF _ _ = denF _ _; kernel_rfl, rfl, by simp⟩
 rintro m t h ⟨i, hi, rfl, rfl, hr⟩
 by_cases hlt : i < l.length
 ·obtain ⟨x, hx⟩ := getE hlt
  obtain ⟨b1, o1, r1⟩ := hs.rowM hx
  have hd : l.drop i = x :: l.drop (i + 1) := by
   rw [List.drop_eq_getElem_cons hlt]
   rw [List.getElem?_eq_getElem hlt] at hx
   cases hx; rfl
  rw [hd] at hr
  refine Wp.tree (cE_ok 0) (tree98t s l.length c i x.a x.b x.c x.d x.e q b1 o1 (x.a == id) H) ⟨rfl, rfl⟩ ⟨fun _ => ⟨r1.ptr _ _, r1.all _, ?_, fun ht => end_ret ⟨rfl, ?_⟩, fun ht => end_next (m - 1) (by omega) ⟨i + 1, by omega, ?_, rfl, ?_⟩⟩, fun q => by simp at q; omega⟩
  ·have := C.call99 (h := H) x hq
   have e0 : denH [.seg H] = H := by simp [denH, denL, It.den]
   rw [e0]
   show opA _ (.callv (.tmp 11) [.tmp 15]) _ _ = _
   simp [opA, ev, denF, frS, denV, denA, den0, Plain.env, Plain.find]
   exact this
  ·rw [hr]
   simp only [atI, ht, if_true, Option.map_some, Nat.zero_add]
   exact ⟨trivial, by show denF _ _ = denF _ _; kernel_rfl⟩
  ·rw [wrap64 (by omega) (by omega)]; show denF _ _ = denF _ _; kernel_rfl
  ·rw [hr]
   simp only [atI, ht, Bool.false_eq_true, if_false, Option.map_map]
   congr 1
   funext k
   show k + 1 + i = k + (i + 1)
   omega
 ·have hil : i = l.length := by omega
  have hn : atI id l = none := by rw [hr, hil, List.drop_length]; rfl
  refine Wp.tree (cE_ok 0) (tree98t s l.length c i 0 0 0 0 false q 0 0 false H) ⟨rfl, rfl⟩ ⟨fun q => by simp at q; omega, fun _ => end_exit ⟨rfl, ?_⟩⟩
  rw [hn]
  exact ⟨by rfl, by show denF _ _ = denF _ _; kernel_rfl⟩
theorem sim98 {H : Heap} {s : Value} {q : Nat} {id : Int} {l : List L5} (hs : RowsW 5 H s (l.map e5)) (hq : rd H q = some ⟨.fix, [.int .i64 id]⟩) (hn : l.length ≤ 1099511627776) : Sim Try.prog 98 [s, .func (.func 99) #[] #[.pointer (some ⟨q, 0, none⟩)]] H fun v h' => v = .int .i64 (atF id l) ∧ h' = H := by
 obtain ⟨sa, sc, rfl⟩ := hs.slcM
 obtain ⟨e, t1, h1, ⟨rfl, he⟩, w⟩ := (loop hs hq hn).exact
 have e0 : denH [.seg H] = H := by simp [denH, denL, It.den]
 have := fnS_tree (Q := fun v h' => v = .int .i64 (atF id l) ∧ h' = H) mixed (gE_ok 0) (gE_q 0) (cE_ok 0) st98 (tree98w sa l.length sc q ((atI id l).isNone) (atF id l) H) ⟨rfl, rfl⟩ ⟨w.mono fun e1 s1 h1 ⟨q1, q2, q3⟩ => by
  subst q1
  unfold atF
  cases ha : atI id l with
  | none => rw [ha] at he; exact ⟨he.1, by rw [q2, he.2], q3⟩
  | some i => rw [ha] at he; exact ⟨he.1, by rw [q2, he.2], q3⟩, fun q => ⟨by
   have : atI id l = none := by simpa using q
   rw [show atF id l = -1 by simp [atF, this]]; rfl, e0⟩, fun q => ⟨rfl, e0⟩⟩
 simpa [denH, denL, It.den, denF, denV, denA, den0] using this
def pre98 (y : List L5 × Int) (args : List Value) (h : Heap) : Prop := ∃ s q, args = [s, .func (.func 99) #[] #[.pointer (some ⟨q, 0, none⟩)]] ∧ RowsW 5 h s (y.1.map e5) ∧ rd h q = some ⟨.fix, [.int .i64 y.2]⟩ ∧ y.1.length ≤ 1099511627776
theorem summ98 : Summ Try.prog 98 (smry pre98 fun y h => (.int .i64 (atF y.2 y.1), h)) := smry_ok fun y args h ⟨s, q, e, hs, hq, hn⟩ => by subst e; exact sim98 hs hq hn
theorem call98 {h : Heap} {s : Value} {l : List L5} {q : Nat} {id : Int} (hs : RowsW 5 h s (l.map e5)) (hq : rd h q = some ⟨.fix, [.int .i64 id]⟩) (hn : l.length ≤ 1099511627776) : smry pre98 (fun y h => (.int .i64 (atF y.2 y.1), h)) [s, .func (.func 99) #[] #[.pointer (some ⟨q, 0, none⟩)]] h = some (.int .i64 (atF id l), h) :=
 smry_some (x := (l, id)) ⟨s, q, rfl, hs, hq, hn⟩ fun y ⟨s', q', e, hs', hq', _⟩ => by
  simp only [List.cons.injEq, and_true, Value.func.injEq, Array.mk.injEq, true_and, Value.pointer.injEq, Option.some.injEq, Addr.mk.injEq] at e
  obtain ⟨rfl, rfl⟩ := e
  have h1 : y.1 = l := (map_inj e5_1 (hs.uniq hs')).symm
  rw [hq] at hq'
  have h2 : y.2 = id := by simpa using hq'.symm
  rw [h1, h2]
end I
namespace T
noncomputable def g : Env := fun f => match f with
 | 98 => smry I.pre98 fun y h => (.int .i64 (atF y.2 y.1), h)
 | _ => fun _ _ => none
theorem g_ok : EnvOk Try.prog g := fun f => by
 unfold g
 split
 ·exact I.summ98
 ·exact fun args h v h' e => by cases e
theorem g_q : QuietEnv qt g := fun f args h v h' hf e => by cases hf
noncomputable abbrev gE (k : Nat) : Env := inE [] [] k g
noncomputable abbrev cE (k : Nat) : CallS := callS [] [] g 100 k
theorem gE_q (k : Nat) : QuietEnv qt (Plain.env [] (gE k)) := Plain.quiet (inE_quiet g_q (fun f F h => by cases h) k)
theorem gE_ok (k : Nat) : EnvOk Try.prog (Plain.env [] (gE k)) := Plain.ok .nil (inE_ok (qt := qt) mixed .nil .nil (fun f F h => by cases h) g_ok g_q k)
theorem cE_ok (k : Nat) : CallOk (Plain.env [] (gE k)) (cE k) := callS_ok k
def il84 : FnIL := ⟨11, [.tmp 4], .seq (.reg [ oT 3 (.box (.tmp 1)), oT 4 (.mov (kI 0))]) (.seq (.reg [ oT 5 (.mov (.tmp 0)), oT 6 (.nilck (.tmp 5)), oT 7 (.fadr 0 (.tmp 6)), oT 8 (.load (.tmp 7) none), oT 9 (.mkfun (.func 99) [] [(.tmp 3)]), oT 10 (.call 98 [(.tmp 8), (.tmp 9)]), oT 4 (.mov (.tmp 10))]) (.ret))⟩
theorem st84 : stF Try.prog qt 84 = some il84 := by kernel_rfl
def hn84 (p : Nat) (s : Option Addr) (n c : Nat) (id r : Int) (H : Heap) : Hs := (.bas 7000008 (.slice s n c) (.use 15000009 (.raw (.func (.func 99) #[] #[.pointer (some ⟨H.length, 0, none⟩)])) ⟨[], []⟩ (.use 26000010 (sI r) ⟨[], []⟩ .nil)))
theorem tree84 (p : Nat) (s : Option Addr) (n c : Nat) (id r : Int) (H : Heap) : fnS [] (gE 0) (cE 0) 100 il84 (hn84 p s n c id r H) [(.raw (.pointer (some ⟨p, 0, none⟩))), (sI id)] [.seg H] =
(.claim (opA (Plain.env [] (gE 0)) (.load (.const (.pointer (some ⟨p, 0, none⟩))) none) [] H = some ((.slice s n c), H))
 (.claim (opA (Plain.env [] (gE 0)) (.mkfun (.func 99) [] [(.tmp 3)]) (denF [.seg H, .blk .fix [(sI id)]] (frS 11 [(0, (.raw (.pointer (some ⟨p, 0, none⟩)))), (1, (sI id)), (3, (.ptr 1 0)), (4, (sI 0)), (5, (.raw (.pointer (some ⟨p, 0, none⟩)))), (6, (.raw (.pointer (some ⟨p, 0, none⟩)))), (7, (.raw (.pointer (some ⟨p, 0, none⟩)))), (8, (rS s n c))])) (denH [.seg H, .blk .fix [(sI id)]]) = some ((.func (.func 99) #[] #[.pointer (some ⟨H.length, 0, none⟩)]), denH [.seg H, .blk .fix [(sI id)]]))
 (.claim (opA (Plain.env [] (gE 0)) (.call 98 [(.const (.slice s n c)), (.const (.func (.func 99) #[] #[.pointer (some ⟨H.length, 0, none⟩)]))]) [] (denH [.seg H, .blk .fix [(sI id)]]) = some ((.int .i64 r), denH [.seg H, .blk .fix [(sI id)]]))
 (.ret .ret [(sI r)] [.seg H, .blk .fix [(sI id)]])))) := by kernel_rfl
theorem sim84 {H : Heap} {p : Nat} {s : Value} {id : Int} {l : List L5} (hp : rd H p = some ⟨.fix, [s]⟩) (hs : RowsW 5 H s (l.map e5)) (hn : l.length ≤ 1099511627776) : Sim Try.prog 84 [.pointer (some ⟨p, 0, none⟩), .int .i64 id] H fun v h' => v = .int .i64 (atF id l) ∧ h' = H := by
 refine (Sim.plain (R := fun v => v = .int .i64 (atF id l)) ?_ (fun v hv => by subst hv; rfl)).mono fun v h' q => q
 obtain ⟨sa, sc, rfl⟩ := hs.slcM
 have eH : denH [.seg H, .blk .fix [(sI id)]] = H ++ [some ⟨.fix, [.int .i64 id]⟩] := by simp [denH, denL, It.den, den0]
 have hq : rd (H ++ [some ⟨.fix, [.int .i64 id]⟩]) H.length = some ⟨.fix, [.int .i64 id]⟩ := by simp [rd]
 have := fnS_tree (Q := fun v h' => v = .int .i64 (atF id l) ∧ ∃ X, h' = H ++ X) mixed (gE_ok 0) (gE_q 0) (cE_ok 0) st84 (tree84 p sa l.length sc id (atF id l) H) ⟨rfl, rfl⟩ ⟨ld1 hp rfl, by
   simp [opA, pureA, ev, denF, frS, denV, denA, den0, ofs, It.len, off, flat0], by
   rw [eH]; exact opA_call (args := [_, _]) rfl (I.call98 (hs.app _) hq hn), rfl, [some ⟨.fix, [.int .i64 id]⟩], eH⟩
 simpa [denH, denL, It.den, denF, denV, denA, den0] using this
def pre (y : List L5 × Int) (args : List Value) (h : Heap) : Prop := ∃ p s, args = [.pointer (some ⟨p, 0, none⟩), .int .i64 y.2] ∧ rd h p = some ⟨.fix, [s]⟩ ∧ RowsW 5 h s (y.1.map e5) ∧ y.1.length ≤ 1099511627776
def res (y : List L5 × Int) (h : Heap) : Value × Heap := (.int .i64 (atF y.2 y.1), h)
theorem summ : Summ Try.prog 84 (smry pre res) := smry_ok fun y args h ⟨p, s, e, hp, hs, hn⟩ => by subst e; exact sim84 hp hs hn
theorem call {h : Heap} {p : Nat} {s : Value} {l : List L5} (id : Int) (hp : rd h p = some ⟨.fix, [s]⟩) (hs : RowsW 5 h s (l.map e5)) (hn : l.length ≤ 1099511627776) : smry pre res [.pointer (some ⟨p, 0, none⟩), .int .i64 id] h = some (.int .i64 (atF id l), h) :=
 smry_some (x := (l, id)) ⟨p, s, rfl, hp, hs, hn⟩ fun y ⟨p', s', e, hp', hs', _⟩ => by
  simp only [List.cons.injEq, and_true, Value.pointer.injEq, Option.some.injEq, Addr.mk.injEq, Value.int.injEq, true_and] at e
  obtain ⟨rfl, e2⟩ := e
  rw [hp] at hp'
  simp only [Option.some.injEq, Blk.mk.injEq, List.cons.injEq, and_true, true_and] at hp'
  subst hp'
  have h1 : y.1 = l := (map_inj e5_1 (hs.uniq hs')).symm
  unfold res
  rw [h1, ← e2]
end T
end PO
end Go.Proofs.Ytgdojnamjkhknaa
