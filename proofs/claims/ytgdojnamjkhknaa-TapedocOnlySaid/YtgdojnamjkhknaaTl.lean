/-
  keep: a tape's lines, of numbers.
-/
import Derived.Test.YtgdojnamjkhknaaPk
namespace Go.Proofs.Ytgdojnamjkhknaa
open Go.Am
set_option linter.all false
set_option maxRecDepth 100000
namespace TL
open PK PK.E1
/-- (cascade/cascadekeep.Tape).Lines -/
def il51 : FnIL := ⟨63, [.tmp 2],
 .seq (.reg [
    ⟨(some 1), none, .box (.tmp 0)⟩,
    ⟨(some 2), none, .mov (.const (.slice none 0 0))⟩])
 (.seq (.reg [
    ⟨(some 3), none, .mov (.const (.slice none 0 0))⟩])
 (.seq (.reg [
    ⟨(some 4), none, .mov (.const (.int .i64 0))⟩])
 (.seq (.seq (.reg [
     ⟨(some 5), none, .mov (.const (.int .i64 0))⟩])
  (.block 0
    (.loop
      (.seq (.seq (.reg [
          ⟨(some 6), none, .mov (.tmp 5)⟩,
          ⟨(some 7), none, .fadr 0 (.tmp 1)⟩,
          ⟨(some 8), none, .load (.tmp 7) none⟩,
          ⟨(some 9), none, .len (.tmp 8)⟩,
          ⟨(some 10), none, .bin .lss (.tmp 6) (.tmp 9)⟩,
          ⟨(some 11), none, .mov (.tmp 10)⟩,
          ⟨(some 12), (some (11, true)), .mov (.tmp 5)⟩,
          ⟨(some 13), (some (11, true)), .bin .lss (.tmp 12) (.const (.int .i64 12))⟩,
          ⟨(some 14), none, .pick (.tmp 11) (.tmp 13) (.const (.bool false))⟩])
       (.ite (.tmp 14)
         (.skip)
         (.exit 0)))
      (.seq (.block 1
         (.seq (.reg [
            ⟨(some 17), none, .mov (.tmp 4)⟩,
            ⟨(some 18), none, .bin .add (.tmp 17) (.const (.int .i64 1))⟩,
            ⟨(some 19), none, .fadr 4 (.tmp 1)⟩,
            ⟨(some 20), none, .load (.tmp 19) none⟩,
            ⟨(some 21), none, .mov (.tmp 5)⟩,
            ⟨(some 22), none, .call 76 [(.tmp 20), (.tmp 21)]⟩,
            ⟨(some 23), none, .call 30 [(.tmp 22), (.const (.int .i64 0)), (.const (.int .i64 3))]⟩,
            ⟨(some 24), none, .bin .add (.tmp 18) (.tmp 23)⟩,
            ⟨(some 4), none, .mov (.tmp 24)⟩])
         (.dreg [
           ⟨(some 25), none, .mov (.tmp 3)⟩,
           ⟨(some 26), none, .mov (.tmp 4)⟩,
           ⟨(some 27), none, .fadr 0 (.tmp 1)⟩,
           ⟨(some 28), none, .load (.tmp 27) none⟩,
           ⟨(some 29), none, .mov (.tmp 5)⟩,
           ⟨(some 30), none, .iadr 1 none (.tmp 28) (.tmp 29)⟩,
           ⟨(some 31), none, .load (.tmp 30) none⟩,
           ⟨(some 32), none, .call 30 [(.tmp 31), (.const (.int .i64 0)), (.const (.int .i64 1099511627776))]⟩,
           ⟨(some 33), none, .fadr 1 (.tmp 1)⟩,
           ⟨(some 34), none, .load (.tmp 33) none⟩,
           ⟨(some 35), none, .mov (.tmp 5)⟩,
           ⟨(some 36), none, .call 76 [(.tmp 34), (.tmp 35)]⟩,
           ⟨(some 37), none, .call 30 [(.tmp 36), (.const (.int .i64 0)), (.const (.int .i64 9000))]⟩,
           ⟨(some 38), none, .fadr 2 (.tmp 1)⟩,
           ⟨(some 39), none, .load (.tmp 38) none⟩,
           ⟨(some 40), none, .mov (.tmp 5)⟩,
           ⟨(some 41), none, .call 76 [(.tmp 39), (.tmp 40)]⟩,
           ⟨(some 42), none, .call 30 [(.tmp 41), (.const (.int .i64 0)), (.const (.int .i64 1099511627776))]⟩,
           ⟨(some 43), none, .fadr 3 (.tmp 1)⟩,
           ⟨(some 44), none, .load (.tmp 43) none⟩,
           ⟨(some 45), none, .mov (.tmp 5)⟩,
           ⟨(some 46), none, .call 76 [(.tmp 44), (.tmp 45)]⟩,
           ⟨(some 47), none, .call 30 [(.tmp 46), (.const (.int .i64 0)), (.const (.int .i64 900))]⟩,
           ⟨(some 48), none, .fadr 4 (.tmp 1)⟩,
           ⟨(some 49), none, .load (.tmp 48) none⟩,
           ⟨(some 50), none, .mov (.tmp 5)⟩,
           ⟨(some 51), none, .call 76 [(.tmp 49), (.tmp 50)]⟩,
           ⟨(some 52), none, .call 30 [(.tmp 51), (.const (.int .i64 0)), (.const (.int .i64 12))]⟩,
           ⟨(some 53), none, .fadr 5 (.tmp 1)⟩,
           ⟨(some 54), none, .load (.tmp 53) none⟩,
           ⟨(some 55), none, .mov (.tmp 5)⟩,
           ⟨(some 56), none, .call 76 [(.tmp 54), (.tmp 55)]⟩,
           ⟨(some 57), none, .bin .and (.tmp 56) (.const (.int .i64 7))⟩,
           ⟨(some 58), none, .bin .eql (.tmp 57) (.const (.int .i64 7))⟩,
           ⟨(some 59), none, .build [(.int .i64 0), (.int .i64 0), (.int .i64 0), (.int .i64 0), (.int .i64 0), (.int .i64 0), (.bool false)] [(0, 1, (.tmp 26)), (1, 1, (.tmp 32)), (2, 1, (.tmp 37)), (3, 1, (.tmp 42)), (4, 1, (.tmp 47)), (5, 1, (.tmp 52)), (6, 1, (.tmp 58))]⟩,
           ⟨(some 60), none, .mkrow [(.int .i64 0), (.int .i64 0), (.int .i64 0), (.int .i64 0), (.int .i64 0), (.int .i64 0), (.bool false)] 1 [(0, 7, (.tmp 59))]⟩,
           ⟨(some 61), none, .append 7 56 (.tmp 25) (.tmp 60)⟩,
           ⟨(some 3), none, .mov (.tmp 61)⟩] [])))
      (.reg [
        ⟨(some 15), none, .mov (.tmp 5)⟩,
        ⟨(some 16), none, .bin .add (.tmp 15) (.const (.int .i64 1))⟩,
        ⟨(some 5), none, .mov (.tmp 16)⟩]))))))
 (.seq (.reg [
    ⟨(some 62), none, .mov (.tmp 3)⟩,
    ⟨(some 2), none, .mov (.tmp 62)⟩])
 (.ret)))))⟩
theorem st51 : stF Try.prog qp 51 = some il51 := by kernel_rfl
def body51_0 : IL := .seq (.seq (.reg [
     ⟨(some 6), none, .mov (.tmp 5)⟩,
     ⟨(some 7), none, .fadr 0 (.tmp 1)⟩,
     ⟨(some 8), none, .load (.tmp 7) none⟩,
     ⟨(some 9), none, .len (.tmp 8)⟩,
     ⟨(some 10), none, .bin .lss (.tmp 6) (.tmp 9)⟩,
     ⟨(some 11), none, .mov (.tmp 10)⟩,
     ⟨(some 12), (some (11, true)), .mov (.tmp 5)⟩,
     ⟨(some 13), (some (11, true)), .bin .lss (.tmp 12) (.const (.int .i64 12))⟩,
     ⟨(some 14), none, .pick (.tmp 11) (.tmp 13) (.const (.bool false))⟩])
  (.ite (.tmp 14)
    (.skip)
    (.exit 0)))
 (.seq (.block 1
    (.seq (.reg [
       ⟨(some 17), none, .mov (.tmp 4)⟩,
       ⟨(some 18), none, .bin .add (.tmp 17) (.const (.int .i64 1))⟩,
       ⟨(some 19), none, .fadr 4 (.tmp 1)⟩,
       ⟨(some 20), none, .load (.tmp 19) none⟩,
       ⟨(some 21), none, .mov (.tmp 5)⟩,
       ⟨(some 22), none, .call 76 [(.tmp 20), (.tmp 21)]⟩,
       ⟨(some 23), none, .call 30 [(.tmp 22), (.const (.int .i64 0)), (.const (.int .i64 3))]⟩,
       ⟨(some 24), none, .bin .add (.tmp 18) (.tmp 23)⟩,
       ⟨(some 4), none, .mov (.tmp 24)⟩])
    (.dreg [
      ⟨(some 25), none, .mov (.tmp 3)⟩,
      ⟨(some 26), none, .mov (.tmp 4)⟩,
      ⟨(some 27), none, .fadr 0 (.tmp 1)⟩,
      ⟨(some 28), none, .load (.tmp 27) none⟩,
      ⟨(some 29), none, .mov (.tmp 5)⟩,
      ⟨(some 30), none, .iadr 1 none (.tmp 28) (.tmp 29)⟩,
      ⟨(some 31), none, .load (.tmp 30) none⟩,
      ⟨(some 32), none, .call 30 [(.tmp 31), (.const (.int .i64 0)), (.const (.int .i64 1099511627776))]⟩,
      ⟨(some 33), none, .fadr 1 (.tmp 1)⟩,
      ⟨(some 34), none, .load (.tmp 33) none⟩,
      ⟨(some 35), none, .mov (.tmp 5)⟩,
      ⟨(some 36), none, .call 76 [(.tmp 34), (.tmp 35)]⟩,
      ⟨(some 37), none, .call 30 [(.tmp 36), (.const (.int .i64 0)), (.const (.int .i64 9000))]⟩,
      ⟨(some 38), none, .fadr 2 (.tmp 1)⟩,
      ⟨(some 39), none, .load (.tmp 38) none⟩,
      ⟨(some 40), none, .mov (.tmp 5)⟩,
      ⟨(some 41), none, .call 76 [(.tmp 39), (.tmp 40)]⟩,
      ⟨(some 42), none, .call 30 [(.tmp 41), (.const (.int .i64 0)), (.const (.int .i64 1099511627776))]⟩,
      ⟨(some 43), none, .fadr 3 (.tmp 1)⟩,
      ⟨(some 44), none, .load (.tmp 43) none⟩,
      ⟨(some 45), none, .mov (.tmp 5)⟩,
      ⟨(some 46), none, .call 76 [(.tmp 44), (.tmp 45)]⟩,
      ⟨(some 47), none, .call 30 [(.tmp 46), (.const (.int .i64 0)), (.const (.int .i64 900))]⟩,
      ⟨(some 48), none, .fadr 4 (.tmp 1)⟩,
      ⟨(some 49), none, .load (.tmp 48) none⟩,
      ⟨(some 50), none, .mov (.tmp 5)⟩,
      ⟨(some 51), none, .call 76 [(.tmp 49), (.tmp 50)]⟩,
      ⟨(some 52), none, .call 30 [(.tmp 51), (.const (.int .i64 0)), (.const (.int .i64 12))]⟩,
      ⟨(some 53), none, .fadr 5 (.tmp 1)⟩,
      ⟨(some 54), none, .load (.tmp 53) none⟩,
      ⟨(some 55), none, .mov (.tmp 5)⟩,
      ⟨(some 56), none, .call 76 [(.tmp 54), (.tmp 55)]⟩,
      ⟨(some 57), none, .bin .and (.tmp 56) (.const (.int .i64 7))⟩,
      ⟨(some 58), none, .bin .eql (.tmp 57) (.const (.int .i64 7))⟩,
      ⟨(some 59), none, .build [(.int .i64 0), (.int .i64 0), (.int .i64 0), (.int .i64 0), (.int .i64 0), (.int .i64 0), (.bool false)] [(0, 1, (.tmp 26)), (1, 1, (.tmp 32)), (2, 1, (.tmp 37)), (3, 1, (.tmp 42)), (4, 1, (.tmp 47)), (5, 1, (.tmp 52)), (6, 1, (.tmp 58))]⟩,
      ⟨(some 60), none, .mkrow [(.int .i64 0), (.int .i64 0), (.int .i64 0), (.int .i64 0), (.int .i64 0), (.int .i64 0), (.bool false)] 1 [(0, 7, (.tmp 59))]⟩,
      ⟨(some 61), none, .append 7 56 (.tmp 25) (.tmp 60)⟩,
      ⟨(some 3), none, .mov (.tmp 61)⟩] [])))
 (.reg [
   ⟨(some 15), none, .mov (.tmp 5)⟩,
   ⟨(some 16), none, .bin .add (.tmp 15) (.const (.int .i64 1))⟩,
   ⟨(some 5), none, .mov (.tmp 16)⟩]))
def hn51t (aa al a2 : Option Addr) (na ca nl cl n2 c2 : Nat) (u1 u2 u3 u4 u5 : Value) (i id_ x0 p1 p2 p3 p4 p5 : Int) (b1 o1 : Nat) (H J J2 X : Heap) : Hs := (.join 3 (.con (.con (.con .nil))) (.con (.con (.con .nil))) (.sym (.use 26000022 (sI p4) ⟨[], []⟩ (.pur 22000030 (.pointer (some ⟨b1, o1, none⟩)) (.bas 7000031 (.int .i64 x0) (.use 26000036 (sI p1) ⟨[], []⟩ (.use 26000041 (sI p2) ⟨[], []⟩ (.use 26000046 (sI p3) ⟨[], []⟩ (.use 26000051 (sI p4) ⟨[], []⟩ (.use 26000056 (sI p5) ⟨[], []⟩ (.use 30000061 (.raw (.slice a2 n2 c2)) ⟨[(2, .seg J2)], [.seg X]⟩ .nil))))))))) .nil))
theorem tree51t (aa al a2 : Option Addr) (na ca nl cl n2 c2 : Nat) (u1 u2 u3 u4 u5 : Value) (i id_ x0 p1 p2 p3 p4 p5 : Int) (b1 o1 : Nat) (H J J2 X : Heap) : pieceS tblP (gE 0) (cE 0) 100 (fun i => exL i body51_0 || inL [2, 3] i) body51_0 (hn51t aa al a2 na ca nl cl n2 c2 u1 u2 u3 u4 u5 i id_ x0 p1 p2 p3 p4 p5 b1 o1 H J J2 X) (frS 63 [(1, (.ptr 1 0)), (2, (.raw (.slice none 0 0))), (3, (.raw (.slice al nl cl))), (4, (sI id_)), (5, (sI i))]) [.seg H, .blk .fix [(.raw (.slice aa na ca)), (.raw u1), (.raw u2), (.raw u3), (.raw u4), (.raw u5)], .seg J] =
(.req (bif (decide (i < (na : Int))) then true else true) (.br (bif (decide (i < (na : Int))) then (decide (i < 12)) else false)
 (.claim (opA (Plain.env tblP (gE 0)) (.call 76 [(.const u4), (.const (.int .i64 i))]) [] (denH [.seg H, .blk .fix [(.raw (.slice aa na ca)), (.raw u1), (.raw u2), (.raw u3), (.raw u4), (.raw u5)], .seg J]) = some ((.int .i64 p4), denH [.seg H, .blk .fix [(.raw (.slice aa na ca)), (.raw u1), (.raw u2), (.raw u3), (.raw u4), (.raw u5)], .seg J]))
 (.req (preWithin 0 3) (.req true (.claim (opA (Plain.env tblP (gE 0)) (.iadr 1 none (.const (.slice aa na ca)) (.const (.int .i64 i))) [] [] = some ((.pointer (some ⟨b1, o1, none⟩)), []))
 (.claim (opA (Plain.env tblP (gE 0)) (.load (.const (.pointer (some ⟨b1, o1, none⟩))) none) [] H = some ((.int .i64 x0), H))
 (.req (preWithin 0 1099511627776) (.claim (opA (Plain.env tblP (gE 0)) (.call 76 [(.const u1), (.const (.int .i64 i))]) [] (denH [.seg H, .blk .fix [(.raw (.slice aa na ca)), (.raw u1), (.raw u2), (.raw u3), (.raw u4), (.raw u5)], .seg J]) = some ((.int .i64 p1), denH [.seg H, .blk .fix [(.raw (.slice aa na ca)), (.raw u1), (.raw u2), (.raw u3), (.raw u4), (.raw u5)], .seg J]))
 (.req (preWithin 0 9000) (.claim (opA (Plain.env tblP (gE 0)) (.call 76 [(.const u2), (.const (.int .i64 i))]) [] (denH [.seg H, .blk .fix [(.raw (.slice aa na ca)), (.raw u1), (.raw u2), (.raw u3), (.raw u4), (.raw u5)], .seg J]) = some ((.int .i64 p2), denH [.seg H, .blk .fix [(.raw (.slice aa na ca)), (.raw u1), (.raw u2), (.raw u3), (.raw u4), (.raw u5)], .seg J]))
 (.req (preWithin 0 1099511627776) (.claim (opA (Plain.env tblP (gE 0)) (.call 76 [(.const u3), (.const (.int .i64 i))]) [] (denH [.seg H, .blk .fix [(.raw (.slice aa na ca)), (.raw u1), (.raw u2), (.raw u3), (.raw u4), (.raw u5)], .seg J]) = some ((.int .i64 p3), denH [.seg H, .blk .fix [(.raw (.slice aa na ca)), (.raw u1), (.raw u2), (.raw u3), (.raw u4), (.raw u5)], .seg J]))
 (.req (preWithin 0 900) (.claim (opA (Plain.env tblP (gE 0)) (.call 76 [(.const u4), (.const (.int .i64 i))]) [] (denH [.seg H, .blk .fix [(.raw (.slice aa na ca)), (.raw u1), (.raw u2), (.raw u3), (.raw u4), (.raw u5)], .seg J]) = some ((.int .i64 p4), denH [.seg H, .blk .fix [(.raw (.slice aa na ca)), (.raw u1), (.raw u2), (.raw u3), (.raw u4), (.raw u5)], .seg J]))
 (.req (preWithin 0 12) (.claim (opA (Plain.env tblP (gE 0)) (.call 76 [(.const u5), (.const (.int .i64 i))]) [] (denH [.seg H, .blk .fix [(.raw (.slice aa na ca)), (.raw u1), (.raw u2), (.raw u3), (.raw u4), (.raw u5)], .seg J]) = some ((.int .i64 p5), denH [.seg H, .blk .fix [(.raw (.slice aa na ca)), (.raw u1), (.raw u2), (.raw u3), (.raw u4), (.raw u5)], .seg J]))
 (.claim (List.length J2 = List.length J) (.claim (opA (Plain.env tblP (gE 0)) (.append 7 56 (.const (.slice al nl cl)) (.const (denV (ofs [.seg H, .blk .fix [(.raw (.slice aa na ca)), (.raw u1), (.raw u2), (.raw u3), (.raw u4), (.raw u5)], .seg J, .blk .fix [(sI (IntKind.wrap .i64 ((IntKind.wrap .i64 (id_ + 1)) + (wn p4 0 3)))), (sI (wn x0 0 1099511627776)), (sI (wn p1 0 9000)), (sI (wn p2 0 1099511627776)), (sI (wn p3 0 900)), (sI (wn p4 0 12)), (sB ((andI .i64 p5 7) == 7))]]) (.sl 3 0 1 1)))) [] (denH [.seg H, .blk .fix [(.raw (.slice aa na ca)), (.raw u1), (.raw u2), (.raw u3), (.raw u4), (.raw u5)], .seg J, .blk .fix [(sI (IntKind.wrap .i64 ((IntKind.wrap .i64 (id_ + 1)) + (wn p4 0 3)))), (sI (wn x0 0 1099511627776)), (sI (wn p1 0 9000)), (sI (wn p2 0 1099511627776)), (sI (wn p3 0 900)), (sI (wn p4 0 12)), (sB ((andI .i64 p5 7) == 7))]]) = some ((.slice a2 n2 c2), denH [.seg H, .blk .fix [(.raw (.slice aa na ca)), (.raw u1), (.raw u2), (.raw u3), (.raw u4), (.raw u5)], .seg J2, .blk .fix [(sI (IntKind.wrap .i64 ((IntKind.wrap .i64 (id_ + 1)) + (wn p4 0 3)))), (sI (wn x0 0 1099511627776)), (sI (wn p1 0 9000)), (sI (wn p2 0 1099511627776)), (sI (wn p3 0 900)), (sI (wn p4 0 12)), (sB ((andI .i64 p5 7) == 7))], .seg X]))
 (.ret .normal (frS 63 [(1, (.ptr 1 0)), (2, (.raw (.slice none 0 0))), (3, (.raw (.slice a2 n2 c2))), (4, (sI (IntKind.wrap .i64 ((IntKind.wrap .i64 (id_ + 1)) + (wn p4 0 3))))), (5, (sI (IntKind.wrap .i64 (i + 1))))]) [.seg H, .blk .fix [(.raw (.slice aa na ca)), (.raw u1), (.raw u2), (.raw u3), (.raw u4), (.raw u5)], .seg J2, .blk .fix [(sI (IntKind.wrap .i64 ((IntKind.wrap .i64 (id_ + 1)) + (wn p4 0 3)))), (sI (wn x0 0 1099511627776)), (sI (wn p1 0 9000)), (sI (wn p2 0 1099511627776)), (sI (wn p3 0 900)), (sI (wn p4 0 12)), (sB ((andI .i64 p5 7) == 7))], .seg X]))))))))))))))))))
 (.ret (.exit 0) (frS 63 [(1, (.ptr 1 0)), (2, (.raw (.slice none 0 0))), (3, (.raw (.slice al nl cl))), (4, (sI id_)), (5, (sI i))]) [.seg H, .blk .fix [(.raw (.slice aa na ca)), (.raw u1), (.raw u2), (.raw u3), (.raw u4), (.raw u5)], .seg J]))) := by kernel_rfl
def hn51 (aa al : Option Addr) (na ca nl cl : Nat) (u1 u2 u3 u4 u5 : Value) (H X : Heap) : Hs := (.lp 0 [2, 3] (frS 63 [(2, (.raw (.slice none 0 0))), (3, (.raw (.slice al nl cl)))]) ⟨[], [.seg X]⟩ .nil)
theorem tree51 (aa al : Option Addr) (na ca nl cl : Nat) (u1 u2 u3 u4 u5 : Value) (H X : Heap) : fnS tblP (gE 0) (cE 0) 100 il51 (hn51 aa al na ca nl cl u1 u2 u3 u4 u5 H X) [(.raw (.agg ⟨[(.slice aa na ca), u1, u2, u3, u4, u5]⟩))] [.seg H] =
(.claim (Wp (Plain.env tblP (gE 0)) (inL [2, 3]) (.block 0 (.loop body51_0)) (denF [.seg H, .blk .fix [(.raw (.slice aa na ca)), (.raw u1), (.raw u2), (.raw u3), (.raw u4), (.raw u5)]] (frS 63 [(1, (.ptr 1 0)), (2, (.raw (.slice none 0 0))), (3, (.raw (.slice none 0 0))), (4, (sI 0)), (5, (sI 0))])) (denH [.seg H, .blk .fix [(.raw (.slice aa na ca)), (.raw u1), (.raw u2), (.raw u3), (.raw u4), (.raw u5)]]) fun e_ s_ h_ => e_ = .normal ∧ s_ = denF [.seg H, .blk .fix [(.raw (.slice aa na ca)), (.raw u1), (.raw u2), (.raw u3), (.raw u4), (.raw u5)], .seg X] (frS 63 [(2, (.raw (.slice none 0 0))), (3, (.raw (.slice al nl cl)))]) ∧ h_ = denH [.seg H, .blk .fix [(.raw (.slice aa na ca)), (.raw u1), (.raw u2), (.raw u3), (.raw u4), (.raw u5)], .seg X])
 (.ret .ret [(.raw (.slice al nl cl))] [.seg H, .blk .fix [(.raw (.slice aa na ca)), (.raw u1), (.raw u2), (.raw u3), (.raw u4), (.raw u5)], .seg X])) := by kernel_rfl
/-- Numbers of which a tape is made. -/
structure TN where
  p : List Int
  q : List Int
  i : List Int
  r : List Int
  l : List Int
  d : List Int
def idG (l : List Int) : Nat → Int
  | 0 => 0
  | i + 1 => idG l i + 1 + wn (pk l i) 0 3
theorem idG_b (l : List Int) : ∀ i : Nat, (i : Int) ≤ idG l i ∧ idG l i ≤ 4 * i
  | 0 => by simp [idG]
  | i + 1 => by
    have h := idG_b l i
    have h1 := wn_lo (x := pk l i) (lo := 0) (hi := 3) (by decide)
    have h2 := wn_hi (x := pk l i) (lo := 0) (hi := 3) (by decide)
    simp only [idG]
    omega
def lineAt (k : TN) (i : Nat) : R7 := ⟨idG k.l (i + 1), wn (pk k.p i) 0 1099511627776, wn (pk k.q i) 0 9000, wn (pk k.i i) 0 1099511627776, wn (pk k.r i) 0 900, wn (pk k.l i) 0 12, (andI .i64 (pk k.d i) 7) == 7⟩
def linesF (k : TN) : List R7 := (List.range (min k.p.length 12)).map (lineAt k)
theorem linesF_len (k : TN) : (linesF k).length ≤ 12 := by simp [linesF]; omega
theorem loop {H : Heap} {k : TN} {aa : Option Addr} {ca : Nat} {u1 u2 u3 u4 u5 : Value} (h0 : RowsW 1 H (.slice aa k.p.length ca) (k.p.map ir)) (h1 : RowsW 1 H u1 (k.q.map ir)) (h2 : RowsW 1 H u2 (k.i.map ir)) (h3 : RowsW 1 H u3 (k.r.map ir)) (h4 : RowsW 1 H u4 (k.l.map ir)) (h5 : RowsW 1 H u5 (k.d.map ir)) :
    Wp (Plain.env tblP (gE 0)) (inL [2, 3]) (.block 0 (.loop body51_0)) (denF [.seg H, .blk .fix [.raw (.slice aa k.p.length ca), .raw u1, .raw u2, .raw u3, .raw u4, .raw u5]] (frS 63 [(1, (.ptr 1 0)), (2, (.raw (.slice none 0 0))), (3, (.raw (.slice none 0 0))), (4, (sI 0)), (5, (sI 0))])) (denH [.seg H, .blk .fix [.raw (.slice aa k.p.length ca), .raw u1, .raw u2, .raw u3, .raw u4, .raw u5]]) fun e s h => ∃ (X : Heap) (al : Option Addr) (nl cl : Nat), (e = .normal ∧ s = denF [.seg H, .blk .fix [.raw (.slice aa k.p.length ca), .raw u1, .raw u2, .raw u3, .raw u4, .raw u5], .seg X] (frS 63 [(2, (.raw (.slice none 0 0))), (3, (.raw (.slice al nl cl)))]) ∧ h = denH [.seg H, .blk .fix [.raw (.slice aa k.p.length ca), .raw u1, .raw u2, .raw u3, .raw u4, .raw u5], .seg X]) ∧ LsS 7 (denH [.seg H, .blk .fix [.raw (.slice aa k.p.length ca), .raw u1, .raw u2, .raw u3, .raw u4, .raw u5]]) X (.slice al nl cl) ((linesF k).map e7) := by
  refine Wp.bl (fun m t h => ∃ (i : Nat) (J : Heap) (al : Option Addr) (cl : Nat), i + m = min k.p.length 12 ∧ t = denF [.seg H, .blk .fix [.raw (.slice aa k.p.length ca), .raw u1, .raw u2, .raw u3, .raw u4, .raw u5], .seg J] (frS 63 [(1, (.ptr 1 0)), (2, (.raw (.slice none 0 0))), (3, (.raw (.slice al i cl))), (4, (sI (idG k.l i))), (5, (sI i))]) ∧ h = denH [.seg H, .blk .fix [.raw (.slice aa k.p.length ca), .raw u1, .raw u2, .raw u3, .raw u4, .raw u5], .seg J] ∧ LsS 7 (denH [.seg H, .blk .fix [.raw (.slice aa k.p.length ca), .raw u1, .raw u2, .raw u3, .raw u4, .raw u5]]) J (.slice al i cl) (((List.range i).map (lineAt k)).map e7)) ?_ (min k.p.length 12) _ _
    ⟨0, [], none, 0, by omega, by show denF _ _ = denF _ _; kernel_rfl, by simp [denH, denL, It.den, den0], .inl ⟨rfl, rfl⟩⟩
  rintro m t h ⟨i, J, al, cl, hi, rfl, rfl, hl⟩
  by_cases hlt : i < min k.p.length 12
  · obtain ⟨x, hx⟩ := getE (show i < k.p.length by omega)
    obtain ⟨b1, o1, r1⟩ := h0.rowM hx
    have hb := idG_b k.l i
    have hw1 := wn_lo (x := pk k.l i) (lo := 0) (hi := 3) (by decide)
    have hw2 := wn_hi (x := pk k.l i) (lo := 0) (hi := 3) (by decide)
    have eI : IntKind.wrap .i64 (IntKind.wrap .i64 (idG k.l i + 1) + wn (pk k.l i) 0 3) = idG k.l (i + 1) := by
      rw [wrap64 (x := idG k.l i + 1) (by omega) (by omega), wrap64 (by omega) (by omega)]; rfl
    obtain ⟨a2, c2, J2, X, q1, q2, q3⟩ := appRow (I := [.seg H, .blk .fix [.raw (.slice aa k.p.length ca), .raw u1, .raw u2, .raw u3, .raw u4, .raw u5]]) (R := []) (R0 := []) (w := 7) (eby := 56) (row := e7 (lineAt k i)) (cs := [sI (idG k.l (i + 1)), sI (wn (pk k.p i) 0 1099511627776), sI (wn (pk k.q i) 0 9000), sI (wn (pk k.i i) 0 1099511627776), sI (wn (pk k.r i) 0 900), sI (wn (pk k.l i) 0 12), sB ((andI .i64 (pk k.d i) 7) == 7)]) rfl (fun _ => rfl) hl (fun _ => rfl) rfl (by decide) (by simp; omega) (by simp; omega)
    have hlen : (((List.range i).map (lineAt k)).map e7).length = i := by simp
    rw [hlen] at q2 q3
    have c76 : ∀ (l : List Int) (s : Value) (hs : RowsW 1 H s (l.map ir)) (X : SH), gP 76 [s, .int .i64 (i : Int)] (denH (.seg H :: X)) = some (.int .i64 (pk l i), denH (.seg H :: X)) := fun l s hs X => call76 (up1 hs X) (by omega)
    refine Wp.tree (cE_ok 0) (tree51t aa al a2 k.p.length ca i cl (i + 1) c2 u1 u2 u3 u4 u5 i (idG k.l i) (pk k.p i) (pk k.q i) (pk k.i i) (pk k.r i) (pk k.l i) (pk k.d i) b1 o1 H J J2 X) ⟨rfl, rfl⟩ ⟨bif_tt _, ⟨fun hb0 => ⟨opA_call (args := [_, _]) rfl (c76 _ _ h4 _), ⟨rfl, ⟨rfl, ⟨r1.ptr _ _, ⟨?_, ⟨rfl, ⟨opA_call (args := [_, _]) rfl (c76 _ _ h1 _), ⟨rfl, ⟨opA_call (args := [_, _]) rfl (c76 _ _ h2 _), ⟨rfl, ⟨opA_call (args := [_, _]) rfl (c76 _ _ h3 _), ⟨rfl, ⟨opA_call (args := [_, _]) rfl (c76 _ _ h4 _), ⟨rfl, ⟨opA_call (args := [_, _]) rfl (c76 _ _ h5 _), ⟨q1, ⟨?_, ?_⟩⟩⟩⟩⟩⟩⟩⟩⟩⟩⟩⟩⟩⟩⟩⟩⟩, fun hb0 => ?_⟩⟩
    · rw [pk_at hx]; exact r1.one _
    · rw [eI]; exact q2 (Plain.env tblP (gE 0))
    · refine end_next (m - 1) (by omega) ⟨i + 1, J2 ++ (some ⟨.fix, e7 (lineAt k i)⟩ :: X), a2, c2, by omega, ?_, by rw [eI]; simp [denH, denL, It.den, den0, e7, lineAt], ?_⟩
      · rw [wrap64 (x := (i : Int) + 1) (by omega) (by omega), eI]; show denF _ _ = denF _ _; kernel_rfl
      · rw [List.range_succ, List.map_append, List.map_append]
        exact q3
    · simp [Bool.cond_eq_ite] at hb0; omega
  · have hil : i = min k.p.length 12 := by omega
    refine Wp.tree (cE_ok 0) (tree51t aa al al k.p.length ca i cl 0 0 u1 u2 u3 u4 u5 i (idG k.l i) 0 0 0 0 0 0 0 0 H J J J) ⟨rfl, rfl⟩ ⟨bif_tt _, fun q => by simp [Bool.cond_eq_ite] at q; omega, fun _ => end_exit ⟨J, al, i, cl, ⟨rfl, by show denF _ _ = denF _ _; kernel_rfl, rfl⟩, ?_⟩⟩
    rw [linesF, ← hil]
    exact hl
theorem sum51 : Summ Try.prog 51 (runE (Plain.env tblP (gE 0)) il51) := Summ.runE mixed (gE_ok 0) (gE_q 0) st51
/-- A tape's numbers, among the arguments. -/
structure TNOk (H : Heap) (k : TN) (vs : List Value) : Prop where
  ok : ∃ u0 u1 u2 u3 u4 u5, vs = [u0, u1, u2, u3, u4, u5] ∧ RowsW 1 H u0 (k.p.map ir) ∧ RowsW 1 H u1 (k.q.map ir) ∧ RowsW 1 H u2 (k.i.map ir) ∧ RowsW 1 H u3 (k.r.map ir) ∧ RowsW 1 H u4 (k.l.map ir) ∧ RowsW 1 H u5 (k.d.map ir)
theorem run51 {I : SH} (hI : I.all (It.bnd I.length) = true) {k : TN} {vs : List Value} (hk : TNOk (denH I) k vs) : ∃ a n c X, runE (Plain.env tblP (gE 0)) il51 [.agg ⟨vs⟩] (denH I) = some (.slice a n c, denH (I ++ [.seg X])) ∧ LsS 7 (denH I) X (.slice a n c) ((linesF k).map e7) := by
  obtain ⟨u0, u1, u2, u3, u4, u5, rfl, h0, h1, h2, h3, h4, h5⟩ := hk.ok
  obtain ⟨aa, ca, rfl⟩ := h0.slcM
  obtain ⟨e, t1, g1, ⟨X, al, nl, cl, ⟨rfl, rfl, rfl⟩, hl⟩, w⟩ := (loop h0 h1 h2 h3 h4 h5).exact
  obtain ⟨v, h', r, ⟨rfl, rfl⟩⟩ := fnS_run (Q := fun v h' => v = .slice al nl cl ∧ h' = denH I ++ (some ⟨.fix, [.slice aa k.p.length ca, u1, u2, u3, u4, u5]⟩ :: X)) (cE_ok 0) (tree51 aa al k.p.length ca nl cl u1 u2 u3 u4 u5 (denH I) X) ⟨rfl, rfl⟩ ⟨w, rfl, by simp [denH, denL, It.den, den0]⟩
  refine ⟨al, nl, cl, some ⟨.fix, [.slice aa k.p.length ca, u1, u2, u3, u4, u5]⟩ :: X, ?_, ?_⟩
  · rw [denH_snoc I hI]
    have e0 : denH [.seg (denH I)] = denH I := by simp [denH, denL, It.den]
    rw [e0] at r
    exact r
  · exact LsS.ahead (w := 7) (A := [_]) (by simpa [denH, denL, It.den, den0] using hl)
end TL
end Go.Proofs.Ytgdojnamjkhknaa
