/-
  The law DealSteps.
-/
import Derived.Test.YtgdojnamjkhknaaLa0
import Derived.Test.YtgdojnamjkhknaaLcA
namespace Go.Proofs.Ytgdojnamjkhknaa
open Go.Am
set_option linter.all false
set_option maxRecDepth 100000
--abbr 20 kB
--abbr 18 dB
namespace L
open K (KV KW kVal dealF DlA At kB dB)
open D (DV DlW dVal preD rightB stpF stOk)
open D.A (pre1 pre1_u anyL)
def body9_1 : IL := .seq (.seq (.reg [
     ⟨(some 49), none, .mov (.tmp 15)⟩,
     ⟨(some 50), none, .mov (.tmp 14)⟩,
     ⟨(some 51), none, .bin .add (.const (.int .i64 16)) (.tmp 50)⟩,
     ⟨(some 52), none, .bin .lss (.tmp 49) (.tmp 51)⟩])
  (.ite (.tmp 52)
    (.skip)
    (.exit 1)))
 (.seq (.block 2
    (.reg [
      ⟨(some 55), none, .mov (.tmp 13)⟩,
      ⟨(some 56), none, .mov (.tmp 15)⟩,
      ⟨(some 57), none, .bin .and (.tmp 56) (.const (.int .i64 7))⟩,
      ⟨(some 58), none, .build [(.int .i64 0), (.int .i64 0)] [(0, 1, (.const (.int .i64 3))), (1, 1, (.tmp 57))]⟩,
      ⟨(some 59), none, .mkrow [(.int .i64 0), (.int .i64 0)] 1 [(0, 2, (.tmp 58))]⟩,
      ⟨(some 60), none, .append 2 16 (.tmp 55) (.tmp 59)⟩,
      ⟨(some 13), none, .mov (.tmp 60)⟩]))
 (.reg [
   ⟨(some 53), none, .mov (.tmp 15)⟩,
   ⟨(some 54), none, .bin .add (.tmp 53) (.const (.int .i64 1))⟩,
   ⟨(some 15), none, .mov (.tmp 54)⟩]))
def hn9t (al a2 : Option Addr) (nl cl n2 c2 : Nat) (n i : Int) (H J J2 X : Heap) : Hs := (.sym (.use 30000060 (.raw (.slice a2 n2 c2)) ⟨[(1, .seg J2)], [.seg X]⟩ .nil) .nil)
theorem tree9t (al a2 : Option Addr) (nl cl n2 c2 : Nat) (n i : Int) (H J J2 X : Heap) : pieceS tblL (gE 0) (cE 0) 100 (fun i => exL i body9_1 || inL [10, 13] i) body9_1 (hn9t al a2 nl cl n2 c2 n i H J J2 X) (frS 95 [(10, (sB false)), (13, (.raw (.slice al nl cl))), (14, (sI n)), (15, (sI i))]) [.seg H, .seg J] =
(.br (decide (i < (IntKind.wrap .i64 (16 + n))))
 (.claim (List.length J2 = List.length J) (.claim (opA (Plain.env tblL (gE 0)) (.append 2 16 (.const (.slice al nl cl)) (.const (denV (ofs [.seg H, .seg J, .blk .fix [(sI 3), (sI (andI .i64 i 7))]]) (.sl 2 0 1 1)))) [] (denH [.seg H, .seg J, .blk .fix [(sI 3), (sI (andI .i64 i 7))]]) = some ((.slice a2 n2 c2), denH [.seg H, .seg J2, .blk .fix [(sI 3), (sI (andI .i64 i 7))], .seg X]))
 (.ret .normal (frS 95 [(10, (sB false)), (13, (.raw (.slice a2 n2 c2))), (14, (sI n)), (15, (sI (IntKind.wrap .i64 (i + 1))))]) [.seg H, .seg J2, .blk .fix [(sI 3), (sI (andI .i64 i 7))], .seg X])))
 (.ret (.exit 1) (frS 95 [(10, (sB false)), (13, (.raw (.slice al nl cl))), (14, (sI n)), (15, (sI i))]) [.seg H, .seg J])) := by kernel_rfl
/-- cascade/cascadelaw11.DealSteps -/
def il9 : FnIL := ⟨95, [.tmp 10],
 .seq (.reg [
    ⟨(some 5), none, .box (.tmp 0)⟩,
    ⟨(some 10), none, .mov (.const (.bool false))⟩])
 (.seq (.reg [
    ⟨(some 16), none, .load (.tmp 5) (some 20)⟩,
    ⟨(some 17), none, .call 41 [(.tmp 16)]⟩,
    ⟨(some 18), none, .fld 15 (some 3) (.tmp 17)⟩,
    ⟨(some 19), none, .mov (.tmp 1)⟩,
    ⟨(some 20), none, .call 30 [(.tmp 19), (.const (.int .i64 0)), (.const (.int .i64 2))]⟩,
    ⟨(some 21), none, .idx 1 3 none (.tmp 18) (.tmp 20)⟩,
    ⟨(some 11), none, .mov (.tmp 21)⟩])
 (.seq (.reg [
    ⟨(some 22), none, .mov (.tmp 2)⟩,
    ⟨(some 23), none, .mov (.tmp 11)⟩,
    ⟨(some 24), none, .len (.tmp 23)⟩,
    ⟨(some 25), none, .bin .sub (.tmp 24) (.const (.int .i64 1))⟩,
    ⟨(some 26), none, .call 30 [(.tmp 22), (.const (.int .i64 0)), (.tmp 25)]⟩,
    ⟨(some 12), none, .mov (.tmp 26)⟩])
 (.seq (.dreg [
    ⟨(some 27), none, .mkrow [] 0 []⟩,
    ⟨(some 28), none, .mov (.tmp 11)⟩,
    ⟨(some 29), none, .mov (.tmp 12)⟩,
    ⟨(some 30), none, .slice 2 (.tmp 28) (some (.tmp 29)) none none⟩,
    ⟨(some 31), none, .append 2 16 (.tmp 27) (.tmp 30)⟩,
    ⟨(some 32), none, .mov (.tmp 11)⟩,
    ⟨(some 33), none, .mov (.tmp 12)⟩,
    ⟨(some 34), none, .slice 2 (.tmp 32) none (some (.tmp 33)) none⟩,
    ⟨(some 35), none, .append 2 16 (.tmp 31) (.tmp 34)⟩,
    ⟨(some 13), none, .mov (.tmp 35)⟩] [(3, 0), (7, 0), (7, 4)])
 (.seq (.seq (.reg [
     ⟨(some 36), none, .mov (.tmp 11)⟩,
     ⟨(some 37), none, .call 40 [(.tmp 36)]⟩,
     ⟨(some 38), none, .un .not (.tmp 37)⟩,
     ⟨(some 39), none, .mov (.tmp 38)⟩,
     ⟨(some 40), (some (39, false)), .mov (.tmp 13)⟩,
     ⟨(some 41), (some (39, false)), .call 40 [(.tmp 40)]⟩,
     ⟨(some 42), (some (39, false)), .un .not (.tmp 41)⟩,
     ⟨(some 43), none, .pick (.tmp 39) (.const (.bool true)) (.tmp 42)⟩])
  (.ite (.tmp 43)
    (.seq (.reg [
       ⟨(some 10), none, .mov (.const (.bool false))⟩])
    (.ret))
    (.skip)))
 (.seq (.reg [
    ⟨(some 44), none, .mov (.tmp 4)⟩,
    ⟨(some 45), none, .call 30 [(.tmp 44), (.const (.int .i64 0)), (.const (.int .i64 99))]⟩,
    ⟨(some 46), none, .bin .add (.const (.int .i64 1)) (.tmp 45)⟩,
    ⟨(some 14), none, .mov (.tmp 46)⟩])
 (.seq (.seq (.reg [
     ⟨(some 47), none, .mov (.tmp 3)⟩,
     ⟨(some 48), none, .call 30 [(.tmp 47), (.const (.int .i64 0)), (.const (.int .i64 4))]⟩])
  (.block 0
    (.seq (.reg [
       ⟨(some 62), none, .bin .eql (.tmp 48) (.const (.int .i64 0))⟩,
       ⟨(some 61), none, .mov (.tmp 62)⟩])
    (.ite (.tmp 61)
      (.reg [
        ⟨(some 63), none, .mov (.tmp 13)⟩,
        ⟨(some 64), none, .mov (.tmp 13)⟩,
        ⟨(some 65), none, .iadr 2 none (.tmp 64) (.const (.int .i64 0))⟩,
        ⟨(some 66), none, .load (.tmp 65) (some 2)⟩,
        ⟨(some 67), none, .mkrow [(.int .i64 0), (.int .i64 0)] 1 [(0, 2, (.tmp 66))]⟩,
        ⟨(some 68), none, .append 2 16 (.tmp 63) (.tmp 67)⟩,
        ⟨(some 13), none, .mov (.tmp 68)⟩])
      (.seq (.reg [
         ⟨(some 70), none, .bin .eql (.tmp 48) (.const (.int .i64 1))⟩,
         ⟨(some 69), none, .mov (.tmp 70)⟩])
      (.ite (.tmp 69)
        (.reg [
          ⟨(some 71), none, .mov (.tmp 13)⟩,
          ⟨(some 72), none, .mov (.tmp 14)⟩,
          ⟨(some 73), none, .bin .sub (.const (.int .i64 1)) (.tmp 72)⟩,
          ⟨(some 74), none, .build [(.int .i64 0), (.int .i64 0)] [(0, 1, (.tmp 73))]⟩,
          ⟨(some 75), none, .iadr 2 none (.tmp 71) (.const (.int .i64 0))⟩,
          ⟨none, none, .store (.tmp 75) (.tmp 74) 2⟩])
        (.seq (.reg [
           ⟨(some 77), none, .bin .eql (.tmp 48) (.const (.int .i64 2))⟩,
           ⟨(some 76), none, .mov (.tmp 77)⟩])
        (.ite (.tmp 76)
          (.reg [
            ⟨(some 78), none, .mov (.tmp 13)⟩,
            ⟨(some 79), none, .mov (.tmp 14)⟩,
            ⟨(some 80), none, .bin .add (.const (.int .i64 7)) (.tmp 79)⟩,
            ⟨(some 81), none, .build [(.int .i64 0), (.int .i64 0)] [(0, 1, (.const (.int .i64 3))), (1, 1, (.tmp 80))]⟩,
            ⟨(some 82), none, .iadr 2 none (.tmp 78) (.const (.int .i64 0))⟩,
            ⟨none, none, .store (.tmp 82) (.tmp 81) 2⟩])
          (.seq (.reg [
             ⟨(some 84), none, .bin .eql (.tmp 48) (.const (.int .i64 3))⟩,
             ⟨(some 83), none, .mov (.tmp 84)⟩])
          (.ite (.tmp 83)
            (.reg [
              ⟨(some 85), none, .mov (.tmp 13)⟩,
              ⟨(some 86), none, .mov (.tmp 14)⟩,
              ⟨(some 87), none, .build [(.int .i64 0), (.int .i64 0)] [(0, 1, (.const (.int .i64 1))), (1, 1, (.tmp 86))]⟩,
              ⟨(some 88), none, .iadr 2 none (.tmp 85) (.const (.int .i64 0))⟩,
              ⟨none, none, .store (.tmp 88) (.tmp 87) 2⟩])
            (.seq (.reg [
               ⟨(some 13), none, .mov (.const (.slice none 0 0))⟩])
            (.seq (.reg [
               ⟨(some 15), none, .mov (.const (.int .i64 0))⟩])
            (.block 1
              (.loop
                (.seq (.seq (.reg [
                    ⟨(some 49), none, .mov (.tmp 15)⟩,
                    ⟨(some 50), none, .mov (.tmp 14)⟩,
                    ⟨(some 51), none, .bin .add (.const (.int .i64 16)) (.tmp 50)⟩,
                    ⟨(some 52), none, .bin .lss (.tmp 49) (.tmp 51)⟩])
                 (.ite (.tmp 52)
                   (.skip)
                   (.exit 1)))
                (.seq (.block 2
                   (.reg [
                     ⟨(some 55), none, .mov (.tmp 13)⟩,
                     ⟨(some 56), none, .mov (.tmp 15)⟩,
                     ⟨(some 57), none, .bin .and (.tmp 56) (.const (.int .i64 7))⟩,
                     ⟨(some 58), none, .build [(.int .i64 0), (.int .i64 0)] [(0, 1, (.const (.int .i64 3))), (1, 1, (.tmp 57))]⟩,
                     ⟨(some 59), none, .mkrow [(.int .i64 0), (.int .i64 0)] 1 [(0, 2, (.tmp 58))]⟩,
                     ⟨(some 60), none, .append 2 16 (.tmp 55) (.tmp 59)⟩,
                     ⟨(some 13), none, .mov (.tmp 60)⟩]))
                (.reg [
                  ⟨(some 53), none, .mov (.tmp 15)⟩,
                  ⟨(some 54), none, .bin .add (.tmp 53) (.const (.int .i64 1))⟩,
                  ⟨(some 15), none, .mov (.tmp 54)⟩])))))))))))))))))
 (.seq (.reg [
    ⟨(some 89), none, .mov (.tmp 13)⟩,
    ⟨(some 90), none, .call 40 [(.tmp 89)]⟩,
    ⟨(some 91), none, .un .not (.tmp 90)⟩,
    ⟨(some 92), none, .mov (.tmp 91)⟩,
    ⟨(some 93), (some (92, true)), .call 7 []⟩,
    ⟨(some 94), none, .pick (.tmp 92) (.tmp 93) (.const (.bool false))⟩,
    ⟨(some 10), none, .mov (.tmp 94)⟩])
 (.ret))))))))⟩
theorem st9 : stF Try.prog qt 9 = some il9 := by kernel_rfl
def hn9 (k0 k1 k2 k3 k4 k5 k6 k7 k8 k9 k10 k11 k12 e0 e1 e2 e3 e4 e5 e6 e7 e8 e9 e10 e11 e12 : Int) (u0 u1 u2 u3 u4 u5 u6 : Value) (m cut what by_ : Int) (la xa ya a1 a2 a3 a4 : Option Addr) (ln lc xn xc yn yc c1 n2 c2 n3 c3 n4 c4 b1 o1 : Nat) (ea0 ea1 ea2 ea3 ea4 : Option Addr) (en0 ec0 en1 ec1 en2 ec2 en3 ec3 en4 ec4 : Nat) (t0 t1 : Int) (er1 er2 : Option Blk) (H D X1 X2 X3 Y2 Y3 Y4 Z : Heap) : Hs := (.use 26000017 (.raw (.agg ⟨[(.int .i64 e0), (.int .i64 e1), (.int .i64 e2), (.slice ea0 en0 ec0), (.slice ea1 en1 ec1), (.int .i64 e3), (.int .i64 e4), (.int .i64 e5), (.int .i64 e6), (.int .i64 e7), (.int .i64 e8), (.int .i64 e9), (.int .i64 e10), (.int .i64 e11), (.int .i64 e12), (.slice ea2 en2 ec2), (.slice ea3 en3 ec3), (.slice ea4 en4 ec4)]⟩)) ⟨[], [.seg D]⟩ (.pur 23000021 (.slice la ln lc) (.crs [none, none, none, some ((.raw (.slice xa xn xc)), ⟨[], []⟩), some ((.raw (.slice a1 xn c1)), ⟨[], [.seg X1]⟩), none, none, some ((.raw (.slice ya yn yc)), ⟨[], []⟩), some ((.raw (.slice a2 n2 c2)), ⟨[(3, .raw er1), (4, .seg X2)], [.seg X3]⟩), none] (.use 26000037 (sB true) ⟨[], []⟩ (.con (.con (.use 26000041 (sB true) ⟨[], []⟩ (.con (.con (.con (.sym (.pur 22000065 (.pointer (some ⟨b1, o1, none⟩)) (.use 7000066 (.raw (.agg ⟨[(.int .i64 t0), (.int .i64 t1)]⟩)) ⟨[], []⟩ (.use 30000068 (.raw (.slice a3 n3 c3)) ⟨[(3, .raw er2), (4, .seg Y2), (5, .seg Y3)], [.seg Y4]⟩ (.use 26000090 (sB false) ⟨[], []⟩ (.con (.con .nil)))))) (.sym (.pur 22000075 (.pointer (some ⟨b1, o1, none⟩)) (.use 8009999 (.raw (.tuple ⟨[]⟩)) ⟨[(3, .raw er2), (4, .seg Y2), (5, .seg Y3)], []⟩ (.use 26000090 (sB false) ⟨[], []⟩ (.con (.con .nil))))) (.sym (.pur 22000082 (.pointer (some ⟨b1, o1, none⟩)) (.use 8009999 (.raw (.tuple ⟨[]⟩)) ⟨[(3, .raw er2), (4, .seg Y2), (5, .seg Y3)], []⟩ (.use 26000090 (sB false) ⟨[], []⟩ (.con (.con .nil))))) (.sym (.pur 22000088 (.pointer (some ⟨b1, o1, none⟩)) (.use 8009999 (.raw (.tuple ⟨[]⟩)) ⟨[(3, .raw er2), (4, .seg Y2), (5, .seg Y3)], []⟩ (.use 26000090 (sB false) ⟨[], []⟩ (.con (.con .nil))))) (.lp 1 [10, 13] (frS 95 [(10, (sB false)), (13, (.raw (.slice a4 n4 c4)))]) ⟨[], [.seg Z]⟩ (.use 26000090 (sB false) ⟨[], []⟩ (.con (.con .nil))))))))))))))))))
theorem tree9 (k0 k1 k2 k3 k4 k5 k6 k7 k8 k9 k10 k11 k12 e0 e1 e2 e3 e4 e5 e6 e7 e8 e9 e10 e11 e12 : Int) (u0 u1 u2 u3 u4 u5 u6 : Value) (m cut what by_ : Int) (la xa ya a1 a2 a3 a4 : Option Addr) (ln lc xn xc yn yc c1 n2 c2 n3 c3 n4 c4 b1 o1 : Nat) (ea0 ea1 ea2 ea3 ea4 : Option Addr) (en0 ec0 en1 ec1 en2 ec2 en3 ec3 en4 ec4 : Nat) (t0 t1 : Int) (er1 er2 : Option Blk) (H D X1 X2 X3 Y2 Y3 Y4 Z : Heap) : fnS tblL (gE 0) (cE 0) 400 il9 (hn9 k0 k1 k2 k3 k4 k5 k6 k7 k8 k9 k10 k11 k12 e0 e1 e2 e3 e4 e5 e6 e7 e8 e9 e10 e11 e12 u0 u1 u2 u3 u4 u5 u6 m cut what by_ la xa ya a1 a2 a3 a4 ln lc xn xc yn yc c1 n2 c2 n3 c3 n4 c4 b1 o1 ea0 ea1 ea2 ea3 ea4 en0 ec0 en1 ec1 en2 ec2 en3 ec3 en4 ec4 t0 t1 er1 er2 H D X1 X2 X3 Y2 Y3 Y4 Z) [(.raw (.agg ⟨[(.int .i64 k0), (.int .i64 k1), (.int .i64 k2), (.int .i64 k3), (.int .i64 k4), (.int .i64 k5), (.int .i64 k6), (.int .i64 k7), (.int .i64 k8), (.int .i64 k9), (.int .i64 k10), (.int .i64 k11), (.int .i64 k12), u0, u1, u2, u3, u4, u5, u6]⟩)), (sI m), (sI cut), (sI what), (sI by_)] [.seg H] =
(.claim (opA (Plain.env tblL (gE 0)) (.call 41 [(.const (.agg ⟨[(.int .i64 k0), (.int .i64 k1), (.int .i64 k2), (.int .i64 k3), (.int .i64 k4), (.int .i64 k5), (.int .i64 k6), (.int .i64 k7), (.int .i64 k8), (.int .i64 k9), (.int .i64 k10), (.int .i64 k11), (.int .i64 k12), u0, u1, u2, u3, u4, u5, u6]⟩))]) [] (denH [.seg H, (kB k0 k1 k2 k3 k4 k5 k6 k7 k8 k9 k10 k11 k12 (.raw u0) (.raw u1) (.raw u2) (.raw u3) (.raw u4) (.raw u5) (.raw u6))]) = some ((.agg ⟨[(.int .i64 e0), (.int .i64 e1), (.int .i64 e2), (.slice ea0 en0 ec0), (.slice ea1 en1 ec1), (.int .i64 e3), (.int .i64 e4), (.int .i64 e5), (.int .i64 e6), (.int .i64 e7), (.int .i64 e8), (.int .i64 e9), (.int .i64 e10), (.int .i64 e11), (.int .i64 e12), (.slice ea2 en2 ec2), (.slice ea3 en3 ec3), (.slice ea4 en4 ec4)]⟩), denH [.seg H, (kB k0 k1 k2 k3 k4 k5 k6 k7 k8 k9 k10 k11 k12 (.raw u0) (.raw u1) (.raw u2) (.raw u3) (.raw u4) (.raw u5) (.raw u6)), .seg D]))
 (.req (preWithin 0 2) (.claim (opA (Plain.env tblL (gE 0)) (.idx 1 3 none (.const (.agg ⟨[(.slice ea2 en2 ec2), (.slice ea3 en3 ec3), (.slice ea4 en4 ec4)]⟩)) (.const (.int .i64 (wn m 0 2)))) [] [] = some ((.slice la ln lc), []))
 (.req (preWithin 0 (IntKind.wrap .i64 ((ln : Int) - 1))) (.req true (.req true (.req true (.claim (opA (Plain.env tblL (gE 0)) (.slice 2 (.const (.slice la ln lc)) (some (.const (.int .i64 (wn cut 0 (IntKind.wrap .i64 ((ln : Int) - 1)))))) none none) [] (denH [.seg H, (kB k0 k1 k2 k3 k4 k5 k6 k7 k8 k9 k10 k11 k12 (.raw u0) (.raw u1) (.raw u2) (.raw u3) (.raw u4) (.raw u5) (.raw u6)), .seg D, .blk .fix []]) = some ((.slice xa xn xc), denH [.seg H, (kB k0 k1 k2 k3 k4 k5 k6 k7 k8 k9 k10 k11 k12 (.raw u0) (.raw u1) (.raw u2) (.raw u3) (.raw u4) (.raw u5) (.raw u6)), .seg D, .blk .fix []]))
 (.claim (opA (Plain.env tblL (gE 0)) (.append 2 16 (.const (denV (ofs [.seg H, (kB k0 k1 k2 k3 k4 k5 k6 k7 k8 k9 k10 k11 k12 (.raw u0) (.raw u1) (.raw u2) (.raw u3) (.raw u4) (.raw u5) (.raw u6)), .seg D, .blk .fix []]) (.sl 3 0 0 0))) (.const (.slice xa xn xc))) [] (denH [.seg H, (kB k0 k1 k2 k3 k4 k5 k6 k7 k8 k9 k10 k11 k12 (.raw u0) (.raw u1) (.raw u2) (.raw u3) (.raw u4) (.raw u5) (.raw u6)), .seg D, .blk .fix []]) = some ((.slice a1 xn c1), denH [.seg H, (kB k0 k1 k2 k3 k4 k5 k6 k7 k8 k9 k10 k11 k12 (.raw u0) (.raw u1) (.raw u2) (.raw u3) (.raw u4) (.raw u5) (.raw u6)), .seg D, .blk .fix [], .seg X1]))
 (.req true (.req true (.claim (opA (Plain.env tblL (gE 0)) (.slice 2 (.const (.slice la ln lc)) none (some (.const (.int .i64 (wn cut 0 (IntKind.wrap .i64 ((ln : Int) - 1)))))) none) [] (denH [.seg H, (kB k0 k1 k2 k3 k4 k5 k6 k7 k8 k9 k10 k11 k12 (.raw u0) (.raw u1) (.raw u2) (.raw u3) (.raw u4) (.raw u5) (.raw u6)), .seg D, .blk .fix [], .seg X1]) = some ((.slice ya yn yc), denH [.seg H, (kB k0 k1 k2 k3 k4 k5 k6 k7 k8 k9 k10 k11 k12 (.raw u0) (.raw u1) (.raw u2) (.raw u3) (.raw u4) (.raw u5) (.raw u6)), .seg D, .blk .fix [], .seg X1]))
 (.claim (List.length X2 = List.length X1) (.claim (opA (Plain.env tblL (gE 0)) (.append 2 16 (.const (.slice a1 xn c1)) (.const (.slice ya yn yc))) [] (denH [.seg H, (kB k0 k1 k2 k3 k4 k5 k6 k7 k8 k9 k10 k11 k12 (.raw u0) (.raw u1) (.raw u2) (.raw u3) (.raw u4) (.raw u5) (.raw u6)), .seg D, .blk .fix [], .seg X1]) = some ((.slice a2 n2 c2), denH [.seg H, (kB k0 k1 k2 k3 k4 k5 k6 k7 k8 k9 k10 k11 k12 (.raw u0) (.raw u1) (.raw u2) (.raw u3) (.raw u4) (.raw u5) (.raw u6)), .seg D, .raw er1, .seg X2, .seg X3]))
 (.req true (.claim ((∃ h2, opA (Plain.env tblL (gE 0)) (.slice 2 (.const (.slice la ln lc)) (some (.const (.int .i64 (wn cut 0 (IntKind.wrap .i64 ((ln : Int) - 1)))))) none none) [] (denH [.seg H, (kB k0 k1 k2 k3 k4 k5 k6 k7 k8 k9 k10 k11 k12 (.raw u0) (.raw u1) (.raw u2) (.raw u3) (.raw u4) (.raw u5) (.raw u6)), .seg D]) = some ((.slice xa xn xc), h2)) ∧ eqV (.slice xa xn xc) (.slice xa xn xc) = true)
 (.claim ((∃ h2, opA (Plain.env tblL (gE 0)) (.slice 2 (.const (.slice la ln lc)) none (some (.const (.int .i64 (wn cut 0 (IntKind.wrap .i64 ((ln : Int) - 1)))))) none) [] (denH [.seg H, (kB k0 k1 k2 k3 k4 k5 k6 k7 k8 k9 k10 k11 k12 (.raw u0) (.raw u1) (.raw u2) (.raw u3) (.raw u4) (.raw u5) (.raw u6)), .seg D]) = some ((.slice ya yn yc), h2)) ∧ eqV (.slice ya yn yc) (.slice ya yn yc) = true)
 (.claim ((∃ h2, opA (Plain.env tblL (gE 0)) (.slice 2 (.const (.slice la ln lc)) none (some (.const (.int .i64 (wn cut 0 (IntKind.wrap .i64 ((ln : Int) - 1)))))) none) [] (denH [.seg H, (kB k0 k1 k2 k3 k4 k5 k6 k7 k8 k9 k10 k11 k12 (.raw u0) (.raw u1) (.raw u2) (.raw u3) (.raw u4) (.raw u5) (.raw u6)), .seg D, .blk .fix []]) = some ((.slice ya yn yc), h2)) ∧ eqV (.slice ya yn yc) (.slice ya yn yc) = true)
 (.claim (opA (Plain.env tblL (gE 0)) (.call 40 [(.const (.slice la ln lc))]) [] (denH [.seg H, (kB k0 k1 k2 k3 k4 k5 k6 k7 k8 k9 k10 k11 k12 (.raw u0) (.raw u1) (.raw u2) (.raw u3) (.raw u4) (.raw u5) (.raw u6)), .seg D, .raw er1, .seg X2, .seg X3]) = some ((.bool true), denH [.seg H, (kB k0 k1 k2 k3 k4 k5 k6 k7 k8 k9 k10 k11 k12 (.raw u0) (.raw u1) (.raw u2) (.raw u3) (.raw u4) (.raw u5) (.raw u6)), .seg D, .raw er1, .seg X2, .seg X3]))
 (.claim (opA (Plain.env tblL (gE 0)) (.call 40 [(.const (.slice a2 n2 c2))]) [] (denH [.seg H, (kB k0 k1 k2 k3 k4 k5 k6 k7 k8 k9 k10 k11 k12 (.raw u0) (.raw u1) (.raw u2) (.raw u3) (.raw u4) (.raw u5) (.raw u6)), .seg D, .raw er1, .seg X2, .seg X3]) = some ((.bool true), denH [.seg H, (kB k0 k1 k2 k3 k4 k5 k6 k7 k8 k9 k10 k11 k12 (.raw u0) (.raw u1) (.raw u2) (.raw u3) (.raw u4) (.raw u5) (.raw u6)), .seg D, .raw er1, .seg X2, .seg X3]))
 (.req (preWithin 0 99) (.req (preWithin 0 4) (.br ((wn what 0 4) == 0)
 (.claim (opA (Plain.env tblL (gE 0)) (.iadr 2 none (.const (.slice a2 n2 c2)) (.const (.int .i64 0))) [] [] = some ((.pointer (some ⟨b1, o1, none⟩)), []))
 (.claim (opA (Plain.env tblL (gE 0)) (.load (.const (.pointer (some ⟨b1, o1, none⟩))) (some 2)) [] (denH [.seg H, (kB k0 k1 k2 k3 k4 k5 k6 k7 k8 k9 k10 k11 k12 (.raw u0) (.raw u1) (.raw u2) (.raw u3) (.raw u4) (.raw u5) (.raw u6)), .seg D, .raw er1, .seg X2, .seg X3]) = some ((.agg ⟨[(.int .i64 t0), (.int .i64 t1)]⟩), denH [.seg H, (kB k0 k1 k2 k3 k4 k5 k6 k7 k8 k9 k10 k11 k12 (.raw u0) (.raw u1) (.raw u2) (.raw u3) (.raw u4) (.raw u5) (.raw u6)), .seg D, .raw er1, .seg X2, .seg X3]))
 (.claim (List.length Y2 = List.length X2) (.claim (List.length Y3 = List.length X3) (.claim (opA (Plain.env tblL (gE 0)) (.append 2 16 (.const (.slice a2 n2 c2)) (.const (denV (ofs [.seg H, (kB k0 k1 k2 k3 k4 k5 k6 k7 k8 k9 k10 k11 k12 (.raw u0) (.raw u1) (.raw u2) (.raw u3) (.raw u4) (.raw u5) (.raw u6)), .seg D, .raw er1, .seg X2, .seg X3, .blk .fix [(sI t0), (sI t1)]]) (.sl 6 0 1 1)))) [] (denH [.seg H, (kB k0 k1 k2 k3 k4 k5 k6 k7 k8 k9 k10 k11 k12 (.raw u0) (.raw u1) (.raw u2) (.raw u3) (.raw u4) (.raw u5) (.raw u6)), .seg D, .raw er1, .seg X2, .seg X3, .blk .fix [(sI t0), (sI t1)]]) = some ((.slice a3 n3 c3), denH [.seg H, (kB k0 k1 k2 k3 k4 k5 k6 k7 k8 k9 k10 k11 k12 (.raw u0) (.raw u1) (.raw u2) (.raw u3) (.raw u4) (.raw u5) (.raw u6)), .seg D, .raw er2, .seg Y2, .seg Y3, .blk .fix [(sI t0), (sI t1)], .seg Y4]))
 (.claim (opA (Plain.env tblL (gE 0)) (.call 40 [(.const (.slice a3 n3 c3))]) [] (denH [.seg H, (kB k0 k1 k2 k3 k4 k5 k6 k7 k8 k9 k10 k11 k12 (.raw u0) (.raw u1) (.raw u2) (.raw u3) (.raw u4) (.raw u5) (.raw u6)), .seg D, .raw er2, .seg Y2, .seg Y3, .blk .fix [(sI t0), (sI t1)], .seg Y4]) = some ((.bool false), denH [.seg H, (kB k0 k1 k2 k3 k4 k5 k6 k7 k8 k9 k10 k11 k12 (.raw u0) (.raw u1) (.raw u2) (.raw u3) (.raw u4) (.raw u5) (.raw u6)), .seg D, .raw er2, .seg Y2, .seg Y3, .blk .fix [(sI t0), (sI t1)], .seg Y4]))
 (.req true (.ret .ret [(sB true)] [.seg H, (kB k0 k1 k2 k3 k4 k5 k6 k7 k8 k9 k10 k11 k12 (.raw u0) (.raw u1) (.raw u2) (.raw u3) (.raw u4) (.raw u5) (.raw u6)), .seg D, .raw er2, .seg Y2, .seg Y3, .blk .fix [(sI t0), (sI t1)], .seg Y4]))))))))
 (.br ((wn what 0 4) == 1)
 (.claim (opA (Plain.env tblL (gE 0)) (.iadr 2 none (.const (.slice a2 n2 c2)) (.const (.int .i64 0))) [] [] = some ((.pointer (some ⟨b1, o1, none⟩)), []))
 (.claim (List.length Y2 = List.length X2) (.claim (List.length Y3 = List.length X3) (.claim (opA (Plain.env tblL (gE 0)) (.store (.const (.pointer (some ⟨b1, o1, none⟩))) (.const (.agg ⟨[(.int .i64 (IntKind.wrap .i64 (1 - (IntKind.wrap .i64 (1 + (wn by_ 0 99)))))), (.int .i64 0)]⟩)) 2) [] (denH [.seg H, (kB k0 k1 k2 k3 k4 k5 k6 k7 k8 k9 k10 k11 k12 (.raw u0) (.raw u1) (.raw u2) (.raw u3) (.raw u4) (.raw u5) (.raw u6)), .seg D, .raw er1, .seg X2, .seg X3]) = some ((.tuple ⟨[]⟩), denH [.seg H, (kB k0 k1 k2 k3 k4 k5 k6 k7 k8 k9 k10 k11 k12 (.raw u0) (.raw u1) (.raw u2) (.raw u3) (.raw u4) (.raw u5) (.raw u6)), .seg D, .raw er2, .seg Y2, .seg Y3]))
 (.claim (opA (Plain.env tblL (gE 0)) (.call 40 [(.const (.slice a2 n2 c2))]) [] (denH [.seg H, (kB k0 k1 k2 k3 k4 k5 k6 k7 k8 k9 k10 k11 k12 (.raw u0) (.raw u1) (.raw u2) (.raw u3) (.raw u4) (.raw u5) (.raw u6)), .seg D, .raw er2, .seg Y2, .seg Y3]) = some ((.bool false), denH [.seg H, (kB k0 k1 k2 k3 k4 k5 k6 k7 k8 k9 k10 k11 k12 (.raw u0) (.raw u1) (.raw u2) (.raw u3) (.raw u4) (.raw u5) (.raw u6)), .seg D, .raw er2, .seg Y2, .seg Y3]))
 (.req true (.ret .ret [(sB true)] [.seg H, (kB k0 k1 k2 k3 k4 k5 k6 k7 k8 k9 k10 k11 k12 (.raw u0) (.raw u1) (.raw u2) (.raw u3) (.raw u4) (.raw u5) (.raw u6)), .seg D, .raw er2, .seg Y2, .seg Y3])))))))
 (.br ((wn what 0 4) == 2)
 (.claim (opA (Plain.env tblL (gE 0)) (.iadr 2 none (.const (.slice a2 n2 c2)) (.const (.int .i64 0))) [] [] = some ((.pointer (some ⟨b1, o1, none⟩)), []))
 (.claim (List.length Y2 = List.length X2) (.claim (List.length Y3 = List.length X3) (.claim (opA (Plain.env tblL (gE 0)) (.store (.const (.pointer (some ⟨b1, o1, none⟩))) (.const (.agg ⟨[(.int .i64 3), (.int .i64 (IntKind.wrap .i64 (7 + (IntKind.wrap .i64 (1 + (wn by_ 0 99))))))]⟩)) 2) [] (denH [.seg H, (kB k0 k1 k2 k3 k4 k5 k6 k7 k8 k9 k10 k11 k12 (.raw u0) (.raw u1) (.raw u2) (.raw u3) (.raw u4) (.raw u5) (.raw u6)), .seg D, .raw er1, .seg X2, .seg X3]) = some ((.tuple ⟨[]⟩), denH [.seg H, (kB k0 k1 k2 k3 k4 k5 k6 k7 k8 k9 k10 k11 k12 (.raw u0) (.raw u1) (.raw u2) (.raw u3) (.raw u4) (.raw u5) (.raw u6)), .seg D, .raw er2, .seg Y2, .seg Y3]))
 (.claim (opA (Plain.env tblL (gE 0)) (.call 40 [(.const (.slice a2 n2 c2))]) [] (denH [.seg H, (kB k0 k1 k2 k3 k4 k5 k6 k7 k8 k9 k10 k11 k12 (.raw u0) (.raw u1) (.raw u2) (.raw u3) (.raw u4) (.raw u5) (.raw u6)), .seg D, .raw er2, .seg Y2, .seg Y3]) = some ((.bool false), denH [.seg H, (kB k0 k1 k2 k3 k4 k5 k6 k7 k8 k9 k10 k11 k12 (.raw u0) (.raw u1) (.raw u2) (.raw u3) (.raw u4) (.raw u5) (.raw u6)), .seg D, .raw er2, .seg Y2, .seg Y3]))
 (.req true (.ret .ret [(sB true)] [.seg H, (kB k0 k1 k2 k3 k4 k5 k6 k7 k8 k9 k10 k11 k12 (.raw u0) (.raw u1) (.raw u2) (.raw u3) (.raw u4) (.raw u5) (.raw u6)), .seg D, .raw er2, .seg Y2, .seg Y3])))))))
 (.br ((wn what 0 4) == 3)
 (.claim (opA (Plain.env tblL (gE 0)) (.iadr 2 none (.const (.slice a2 n2 c2)) (.const (.int .i64 0))) [] [] = some ((.pointer (some ⟨b1, o1, none⟩)), []))
 (.claim (List.length Y2 = List.length X2) (.claim (List.length Y3 = List.length X3) (.claim (opA (Plain.env tblL (gE 0)) (.store (.const (.pointer (some ⟨b1, o1, none⟩))) (.const (.agg ⟨[(.int .i64 1), (.int .i64 (IntKind.wrap .i64 (1 + (wn by_ 0 99))))]⟩)) 2) [] (denH [.seg H, (kB k0 k1 k2 k3 k4 k5 k6 k7 k8 k9 k10 k11 k12 (.raw u0) (.raw u1) (.raw u2) (.raw u3) (.raw u4) (.raw u5) (.raw u6)), .seg D, .raw er1, .seg X2, .seg X3]) = some ((.tuple ⟨[]⟩), denH [.seg H, (kB k0 k1 k2 k3 k4 k5 k6 k7 k8 k9 k10 k11 k12 (.raw u0) (.raw u1) (.raw u2) (.raw u3) (.raw u4) (.raw u5) (.raw u6)), .seg D, .raw er2, .seg Y2, .seg Y3]))
 (.claim (opA (Plain.env tblL (gE 0)) (.call 40 [(.const (.slice a2 n2 c2))]) [] (denH [.seg H, (kB k0 k1 k2 k3 k4 k5 k6 k7 k8 k9 k10 k11 k12 (.raw u0) (.raw u1) (.raw u2) (.raw u3) (.raw u4) (.raw u5) (.raw u6)), .seg D, .raw er2, .seg Y2, .seg Y3]) = some ((.bool false), denH [.seg H, (kB k0 k1 k2 k3 k4 k5 k6 k7 k8 k9 k10 k11 k12 (.raw u0) (.raw u1) (.raw u2) (.raw u3) (.raw u4) (.raw u5) (.raw u6)), .seg D, .raw er2, .seg Y2, .seg Y3]))
 (.req true (.ret .ret [(sB true)] [.seg H, (kB k0 k1 k2 k3 k4 k5 k6 k7 k8 k9 k10 k11 k12 (.raw u0) (.raw u1) (.raw u2) (.raw u3) (.raw u4) (.raw u5) (.raw u6)), .seg D, .raw er2, .seg Y2, .seg Y3])))))))
 (.claim (Wp (Plain.env tblL (gE 0)) (inL [10, 13]) (.block 1 (.loop body9_1)) (denF [.seg H, (kB k0 k1 k2 k3 k4 k5 k6 k7 k8 k9 k10 k11 k12 (.raw u0) (.raw u1) (.raw u2) (.raw u3) (.raw u4) (.raw u5) (.raw u6)), .seg D, .raw er1, .seg X2, .seg X3] (frS 95 [(10, (sB false)), (13, (.raw (.slice none 0 0))), (14, (sI (IntKind.wrap .i64 (1 + (wn by_ 0 99))))), (15, (sI 0))])) (denH [.seg H, (kB k0 k1 k2 k3 k4 k5 k6 k7 k8 k9 k10 k11 k12 (.raw u0) (.raw u1) (.raw u2) (.raw u3) (.raw u4) (.raw u5) (.raw u6)), .seg D, .raw er1, .seg X2, .seg X3]) fun e_ s_ h_ => e_ = .normal ∧ s_ = denF [.seg H, (kB k0 k1 k2 k3 k4 k5 k6 k7 k8 k9 k10 k11 k12 (.raw u0) (.raw u1) (.raw u2) (.raw u3) (.raw u4) (.raw u5) (.raw u6)), .seg D, .raw er1, .seg X2, .seg X3, .seg Z] (frS 95 [(10, (sB false)), (13, (.raw (.slice a4 n4 c4)))]) ∧ h_ = denH [.seg H, (kB k0 k1 k2 k3 k4 k5 k6 k7 k8 k9 k10 k11 k12 (.raw u0) (.raw u1) (.raw u2) (.raw u3) (.raw u4) (.raw u5) (.raw u6)), .seg D, .raw er1, .seg X2, .seg X3, .seg Z])
 (.claim (opA (Plain.env tblL (gE 0)) (.call 40 [(.const (.slice a4 n4 c4))]) [] (denH [.seg H, (kB k0 k1 k2 k3 k4 k5 k6 k7 k8 k9 k10 k11 k12 (.raw u0) (.raw u1) (.raw u2) (.raw u3) (.raw u4) (.raw u5) (.raw u6)), .seg D, .raw er1, .seg X2, .seg X3, .seg Z]) = some ((.bool false), denH [.seg H, (kB k0 k1 k2 k3 k4 k5 k6 k7 k8 k9 k10 k11 k12 (.raw u0) (.raw u1) (.raw u2) (.raw u3) (.raw u4) (.raw u5) (.raw u6)), .seg D, .raw er1, .seg X2, .seg X3, .seg Z]))
 (.req true (.ret .ret [(sB true)] [.seg H, (kB k0 k1 k2 k3 k4 k5 k6 k7 k8 k9 k10 k11 k12 (.raw u0) (.raw u1) (.raw u2) (.raw u3) (.raw u4) (.raw u5) (.raw u6)), .seg D, .raw er1, .seg X2, .seg X3, .seg Z])))))))))))))))))))))))))))))) := by kernel_rfl
theorem r2_w9 (l : List R2) : ∀ r ∈ l.map e2, r.length = 2 := fun r hr => by
  obtain ⟨x, _, rfl⟩ := List.mem_map.1 hr; rfl
theorem opA_pre {Γ : Env} {k : IK} {I : SH} {v : Value} (hI : I.all (It.bnd I.length) = true) (hf : effK k = false) (c : opA Γ k [] (denH I) = some (v, denH I)) (X : SH) : opA Γ k [] (denH (I ++ X)) = some (v, denH (I ++ X)) := by
  obtain ⟨R, e⟩ := denH_up hI X
  rw [opA_pure hf] at c ⊢
  split at c
  · rename_i u hu
    cases c
    rw [e, pureA_more hu]
  · cases c
theorem split3 {e1 : Option Blk} {X2 X3 J2 : Heap} (h : J2.length = (e1 :: (X2 ++ X3)).length) : ∃ e Y2 Y3, J2 = e :: (Y2 ++ Y3) ∧ Y2.length = X2.length ∧ Y3.length = X3.length := by
  cases J2 with
  | nil => simp at h
  | cons e J =>
    simp at h
    exact ⟨e, J.take X2.length, J.drop X2.length, by simp, by simp; omega, by simp; omega⟩
theorem loop9 {H : Heap} {n : Int} (hn : 1 ≤ n ∧ n ≤ 100) : Wp (Plain.env tblL (gE 0)) (inL [10, 13]) (.block 1 (.loop body9_1)) (denF [.seg H] (frS 95 [(10, (sB false)), (13, (.raw (.slice none 0 0))), (14, (sI n)), (15, (sI 0))])) (denH [.seg H]) fun e s h => ∃ (Z : Heap) (a4 : Option Addr) (c4 : Nat), (e = .normal ∧ s = denF [.seg H, .seg Z] (frS 95 [(10, (sB false)), (13, (.raw (.slice a4 (16 + n).toNat c4)))]) ∧ h = denH [.seg H, .seg Z]) ∧ LsS 2 H Z (.slice a4 (16 + n).toNat c4) (((List.range (16 + n).toNat).map fun i => (⟨3, andI .i64 (i : Nat) 7⟩ : R2)).map e2) := by
  have w16 : IntKind.wrap .i64 (16 + n) = 16 + n := wrap64 (by omega) (by omega)
  refine Wp.bl (fun m t h => ∃ (i : Nat) (J : Heap) (al : Option Addr) (cl : Nat), i + m = (16 + n).toNat ∧ t = denF [.seg H, .seg J] (frS 95 [(10, (sB false)), (13, (.raw (.slice al i cl))), (14, (sI n)), (15, (sI i))]) ∧ h = denH [.seg H, .seg J] ∧ LsS 2 H J (.slice al i cl) (((List.range i).map fun i => (⟨3, andI .i64 (i : Nat) 7⟩ : R2)).map e2)) ?_ (16 + n).toNat _ _
    ⟨0, [], none, 0, by omega, by show denF _ _ = denF _ _; kernel_rfl, by simp [denH, denL, It.den, den0, e2, e3], .inl ⟨rfl, rfl⟩⟩
  rintro m t h ⟨i, J, al, cl, hi, rfl, rfl, hl⟩
  by_cases hlt : i < (16 + n).toNat
  · have hb : LsS 2 (denH [.seg H]) J (.slice al i cl) (((List.range i).map fun i => (⟨3, andI .i64 (i : Nat) 7⟩ : R2)).map e2) := hl.base (by simp [denH, denL, It.den])
    obtain ⟨a2, c2, J2, X, q1, q2, q3⟩ := appRow (I := [.seg H]) (R := []) (R0 := []) (w := 2) (eby := 16) (row := [.int .i64 3, .int .i64 (andI .i64 i 7)]) (cs := [sI 3, sI (andI .i64 i 7)]) rfl (fun _ => rfl) hb (fun _ => rfl) rfl (by decide) (by simp; omega) (by simp; omega)
    have hlen : (((List.range i).map fun i => (⟨3, andI .i64 (i : Nat) 7⟩ : R2)).map e2).length = i := by simp
    rw [hlen] at q2 q3
    refine Wp.tree (cE_ok 0) (tree9t al a2 i cl (i + 1) c2 n i H J J2 X) ⟨rfl, rfl⟩ ⟨fun _ => ⟨q1, q2 (Plain.env tblL (gE 0)), end_next (m - 1) (by omega) ⟨i + 1, J2 ++ (some ⟨.fix, [.int .i64 3, .int .i64 (andI .i64 i 7)]⟩ :: X), a2, c2, by omega, ?_, by simp [denH, denL, It.den, den0, e2, e3], ?_⟩⟩, fun q => by rw [w16] at q; simp at q; omega⟩
    · rw [wrap64 (x := (i : Int) + 1) (by omega) (by omega)]; show denF _ _ = denF _ _; kernel_rfl
    · rw [List.range_succ, List.map_append, List.map_append]
      exact q3.base (by simp [denH, denL, It.den])
  · have hil : i = (16 + n).toNat := by omega
    refine Wp.tree (cE_ok 0) (tree9t al al i cl 0 0 n i H J J J) ⟨rfl, rfl⟩ ⟨fun q => by rw [w16] at q; simp at q; omega, fun _ => end_exit ?_⟩
    subst hil
    exact ⟨J, al, cl, ⟨rfl, by show denF _ _ = denF _ _; kernel_rfl, rfl⟩, hl⟩
theorem law9 {H : Heap} {kv : Value} {k : KV} {m cut what by_ : Int} (hk : KW H kv k) (hn : k.no.length ≤ 140737488355328) : Sim Try.prog 9 [kv, .int .i64 m, .int .i64 cut, .int .i64 what, .int .i64 by_] H fun v _ => v = .bool true := by
  have hk' := hk
  obtain ⟨bk0, bk1, bk2, bk3, bk4, bk5, bk6, xk0, xk1, xk2, xk3, xk4, xk5, xk6, rfl, _⟩ := hk
  obtain ⟨ea0, ea1, ea2, ea3, ea4, ec0, ec1, ec2, ec3, ec4, Dh, eD, _, _, q2', q3', q4'⟩ := use41 (I := [.seg H, (K.kB k.k0 k.k1 k.k2 k.k3 k.k4 k.k5 k.k6 k.k7 k.k8 k.k9 k.k10 k.k11 k.k12 (.raw (.slice bk0 k.lo.length xk0)) (.raw (.slice bk1 k.no.length xk1)) (.raw (.slice bk2 k.ra.length xk2)) (.raw (.slice bk3 k.rt.length xk3)) (.raw (.slice bk4 k.z0.length xk4)) (.raw (.slice bk5 k.z1.length xk5)) (.raw (.slice bk6 k.z2.length xk6)))]) rfl (KW.up hk' _) hn
  have hm0 := wn_lo (x := m) (show (0 : Int) ≤ 2 by decide)
  have hm1 := wn_hi (x := m) (show (0 : Int) ≤ 2 by decide)
  obtain ⟨la, lc, l, hidx, atl, hr, hl1, hl2⟩ : ∃ la lc, ∃ l : List R2, (∀ Γ, opA Γ (.idx 1 3 none (.const (.agg ⟨[.slice ea2 (dealF k).s0.length ec2, .slice ea3 (dealF k).s1.length ec3, .slice ea4 (dealF k).s2.length ec4]⟩)) (.const (.int .i64 (wn m 0 2)))) [] [] = some (.slice la l.length lc, [])) ∧ At 2 (denH [.seg H, (K.kB k.k0 k.k1 k.k2 k.k3 k.k4 k.k5 k.k6 k.k7 k.k8 k.k9 k.k10 k.k11 k.k12 (.raw (.slice bk0 k.lo.length xk0)) (.raw (.slice bk1 k.no.length xk1)) (.raw (.slice bk2 k.ra.length xk2)) (.raw (.slice bk3 k.rt.length xk3)) (.raw (.slice bk4 k.z0.length xk4)) (.raw (.slice bk5 k.z1.length xk5)) (.raw (.slice bk6 k.z2.length xk6)))]).length Dh (.slice la l.length lc) (l.map e2) ∧ ((∀ x ∈ l, stOk x) ∧ l.Nodup) ∧ 1 ≤ l.length ∧ l.length ≤ 12 := by
    rcases (show wn m 0 2 = 0 ∨ wn m 0 2 = 1 ∨ wn m 0 2 = 2 by omega) with h | h | h
    · exact ⟨ea2, ec2, _, fun Γ => by rw [h]; rfl, q2', K.stepsF_ok _, K.stepsF_len _⟩
    · exact ⟨ea3, ec3, _, fun Γ => by rw [h]; rfl, q3', K.stepsF_ok _, K.stepsF_len _⟩
    · exact ⟨ea4, ec4, _, fun Γ => by rw [h]; rfl, q4', K.stepsF_ok _, K.stepsF_len _⟩
  have hl0 : RowsW 2 (denH [.seg H, (K.kB k.k0 k.k1 k.k2 k.k3 k.k4 k.k5 k.k6 k.k7 k.k8 k.k9 k.k10 k.k11 k.k12 (.raw (.slice bk0 k.lo.length xk0)) (.raw (.slice bk1 k.no.length xk1)) (.raw (.slice bk2 k.ra.length xk2)) (.raw (.slice bk3 k.rt.length xk3)) (.raw (.slice bk4 k.z0.length xk4)) (.raw (.slice bk5 k.z1.length xk5)) (.raw (.slice bk6 k.z2.length xk6))), .seg Dh]) (.slice la l.length lc) (l.map e2) := At.at_ (I := [.seg H, (K.kB k.k0 k.k1 k.k2 k.k3 k.k4 k.k5 k.k6 k.k7 k.k8 k.k9 k.k10 k.k11 k.k12 (.raw (.slice bk0 k.lo.length xk0)) (.raw (.slice bk1 k.no.length xk1)) (.raw (.slice bk2 k.ra.length xk2)) (.raw (.slice bk3 k.rt.length xk3)) (.raw (.slice bk4 k.z0.length xk4)) (.raw (.slice bk5 k.z1.length xk5)) (.raw (.slice bk6 k.z2.length xk6)))]) atl rfl rfl []
  have w1 : IntKind.wrap .i64 ((l.length : Int) - 1) = (l.length : Int) - 1 := wrap64 (by omega) (by omega)
  have hc0 := wn_lo (x := cut) (show (0 : Int) ≤ (l.length : Int) - 1 by omega)
  have hc1 := wn_hi (x := cut) (show (0 : Int) ≤ (l.length : Int) - 1 by omega)
  have hpw : preWithin 0 ((l.length : Int) - 1) = true := by simp [preWithin]; omega
  obtain ⟨c, ec⟩ : ∃ c : Nat, wn cut 0 ((l.length : Int) - 1) = (c : Int) := ⟨_, (Int.toNat_of_nonneg hc0).symm⟩
  obtain ⟨x, hcx, hx⟩ := hl0.cutM (lo := c) (hi := l.length) (by omega) (by omega) (some (.const (.int .i64 (c : Nat)))) none (.inr rfl) (.inl ⟨rfl, rfl⟩)
  rw [List.take_length] at hx
  obtain ⟨xa, xc, rfl⟩ := hx.slcM
  obtain ⟨y, hcy, hy⟩ := hl0.cutM (lo := 0) (hi := c) (by omega) (by omega) none (some (.const (.int .i64 (c : Nat)))) (.inl ⟨rfl, rfl⟩) (.inr rfl)
  rw [List.drop_zero] at hy
  obtain ⟨ya, yc, rfl⟩ := hy.slcM
  obtain ⟨a1, c1, X1, h1, l1⟩ := appNew (I := [.seg H, (K.kB k.k0 k.k1 k.k2 k.k3 k.k4 k.k5 k.k6 k.k7 k.k8 k.k9 k.k10 k.k11 k.k12 (.raw (.slice bk0 k.lo.length xk0)) (.raw (.slice bk1 k.no.length xk1)) (.raw (.slice bk2 k.ra.length xk2)) (.raw (.slice bk3 k.rt.length xk3)) (.raw (.slice bk4 k.z0.length xk4)) (.raw (.slice bk5 k.z1.length xk5)) (.raw (.slice bk6 k.z2.length xk6))), .seg Dh]) rfl (eby := 16) hx (r2_w9 _) (by decide) (by simp; omega) (by simp; omega)
  obtain ⟨a2, c2, er1, X2, X3, g2, h2, l2⟩ := appMore (I := [.seg H, (K.kB k.k0 k.k1 k.k2 k.k3 k.k4 k.k5 k.k6 k.k7 k.k8 k.k9 k.k10 k.k11 k.k12 (.raw (.slice bk0 k.lo.length xk0)) (.raw (.slice bk1 k.no.length xk1)) (.raw (.slice bk2 k.ra.length xk2)) (.raw (.slice bk3 k.rt.length xk3)) (.raw (.slice bk4 k.z0.length xk4)) (.raw (.slice bk5 k.z1.length xk5)) (.raw (.slice bk6 k.z2.length xk6))), .seg Dh]) rfl (eby := 16) l1 hy (r2_w9 _) (by decide) (by simp; omega) (by simp; omega)
  obtain ⟨T, eT⟩ : ∃ T, T = l.drop c ++ l.take c := ⟨_, rfl⟩
  have eTl : (l.drop c).length + (l.take c).length = T.length := by rw [eT, List.length_append]
  rw [List.length_map] at h1
  rw [List.length_map, List.length_map, eTl] at h2 l2
  rw [← List.map_append, ← eT] at l2
  have perm : T.Perm l := by rw [eT]; exact (List.perm_append_comm).trans (by rw [List.take_append_drop])
  have hTl : T.length = l.length := perm.length_eq
  have hTok : ∀ x ∈ T, stOk x := fun x hx => hr.1 x (perm.mem_iff.1 hx)
  have hTn : T.Nodup := perm.nodup_iff.2 hr.2
  have sL : stpF l = true := K.stpF_iff.2 ⟨⟨hl1, by omega⟩, hr⟩
  have sT : stpF T = true := K.stpF_iff.2 ⟨⟨by omega, by omega⟩, hTok, hTn⟩
  have hT : RowsW 2 (denH [.seg H, (K.kB k.k0 k.k1 k.k2 k.k3 k.k4 k.k5 k.k6 k.k7 k.k8 k.k9 k.k10 k.k11 k.k12 (.raw (.slice bk0 k.lo.length xk0)) (.raw (.slice bk1 k.no.length xk1)) (.raw (.slice bk2 k.ra.length xk2)) (.raw (.slice bk3 k.rt.length xk3)) (.raw (.slice bk4 k.z0.length xk4)) (.raw (.slice bk5 k.z1.length xk5)) (.raw (.slice bk6 k.z2.length xk6))), .seg Dh, .raw er1, .seg X2, .seg X3]) (.slice a2 T.length c2) (T.map e2) := LsS.rowsI (I := [.seg H, (K.kB k.k0 k.k1 k.k2 k.k3 k.k4 k.k5 k.k6 k.k7 k.k8 k.k9 k.k10 k.k11 k.k12 (.raw (.slice bk0 k.lo.length xk0)) (.raw (.slice bk1 k.no.length xk1)) (.raw (.slice bk2 k.ra.length xk2)) (.raw (.slice bk3 k.rt.length xk3)) (.raw (.slice bk4 k.z0.length xk4)) (.raw (.slice bk5 k.z1.length xk5)) (.raw (.slice bk6 k.z2.length xk6))), .seg Dh]) (K := [.raw er1, .seg X2, .seg X3]) rfl l2 (by decide) (by simp [denL, It.den])
  have hlJ : RowsW 2 (denH [.seg H, (K.kB k.k0 k.k1 k.k2 k.k3 k.k4 k.k5 k.k6 k.k7 k.k8 k.k9 k.k10 k.k11 k.k12 (.raw (.slice bk0 k.lo.length xk0)) (.raw (.slice bk1 k.no.length xk1)) (.raw (.slice bk2 k.ra.length xk2)) (.raw (.slice bk3 k.rt.length xk3)) (.raw (.slice bk4 k.z0.length xk4)) (.raw (.slice bk5 k.z1.length xk5)) (.raw (.slice bk6 k.z2.length xk6))), .seg Dh, .raw er1, .seg X2, .seg X3]) (.slice la l.length lc) (l.map e2) := hl0.up (X := [.raw er1, .seg X2, .seg X3]) rfl
  have c40 : ∀ {h : Heap} {s : Value} {l : List R2}, RowsW 2 h s (l.map e2) → l.length ≤ 200 → gK 40 [s] h = some (.bool (stpF l), h) := fun {h s l} a b => pre1_u (F := fun l h => (.bool (stpF l), h)) e2_1 (show pre1 2 e2 anyL l [s] h from ⟨_, rfl, a, by show _ ≤ _; omega⟩)
  have cL := c40 hlJ (by omega)
  have cT := c40 hT (by omega)
  rw [sL] at cL
  rw [sT] at cT
  obtain ⟨t, T', eTt⟩ : ∃ t T', T = t :: T' := by
    cases T with
    | nil => simp at hTl; omega
    | cons t T' => exact ⟨t, T', rfl⟩
  have ht0 : T[0]? = some t := by rw [eTt]; rfl
  have hn0 := wn_lo (x := by_) (show (0 : Int) ≤ 99 by decide)
  have hn1 := wn_hi (x := by_) (show (0 : Int) ≤ 99 by decide)
  have wn1 : IntKind.wrap .i64 (1 + wn by_ 0 99) = 1 + wn by_ 0 99 := wrap64 (by omega) (by omega)
  have hw0 := wn_lo (x := what) (show (0 : Int) ≤ 4 by decide)
  have hw1 := wn_hi (x := what) (show (0 : Int) ≤ 4 by decide)
  have bad : ∀ s : R2, ¬ stOk s → stpF (T.set 0 s) = false := fun s hs => by
    cases hq : stpF (T.set 0 s) with
    | false => rfl
    | true =>
      refine absurd ((K.stpF_iff.1 hq).2.1 s ?_) hs
      rw [eTt]; simp
  have turn : ∀ s : R2, ∃ (b1 o1 : Nat) (e2' : Option Blk) (Y2 Y3 : Heap), Y2.length = X2.length ∧ Y3.length = X3.length ∧ (∀ Γ X, opA Γ (.iadr 2 none (.const (.slice a2 T.length c2)) (.const (.int .i64 0))) [] X = some (.pointer (some ⟨b1, o1, none⟩), X)) ∧
      (∀ Γ, opA Γ (.store (.const (.pointer (some ⟨b1, o1, none⟩))) (.const (.agg ⟨e2 s⟩)) 2) [] (denH [.seg H, (K.kB k.k0 k.k1 k.k2 k.k3 k.k4 k.k5 k.k6 k.k7 k.k8 k.k9 k.k10 k.k11 k.k12 (.raw (.slice bk0 k.lo.length xk0)) (.raw (.slice bk1 k.no.length xk1)) (.raw (.slice bk2 k.ra.length xk2)) (.raw (.slice bk3 k.rt.length xk3)) (.raw (.slice bk4 k.z0.length xk4)) (.raw (.slice bk5 k.z1.length xk5)) (.raw (.slice bk6 k.z2.length xk6))), .seg Dh, .raw er1, .seg X2, .seg X3]) = some (.tuple ⟨[]⟩, denH [.seg H, (K.kB k.k0 k.k1 k.k2 k.k3 k.k4 k.k5 k.k6 k.k7 k.k8 k.k9 k.k10 k.k11 k.k12 (.raw (.slice bk0 k.lo.length xk0)) (.raw (.slice bk1 k.no.length xk1)) (.raw (.slice bk2 k.ra.length xk2)) (.raw (.slice bk3 k.rt.length xk3)) (.raw (.slice bk4 k.z0.length xk4)) (.raw (.slice bk5 k.z1.length xk5)) (.raw (.slice bk6 k.z2.length xk6))), .seg Dh, .raw e2', .seg Y2, .seg Y3])) ∧ RowsW 2 (denH [.seg H, (K.kB k.k0 k.k1 k.k2 k.k3 k.k4 k.k5 k.k6 k.k7 k.k8 k.k9 k.k10 k.k11 k.k12 (.raw (.slice bk0 k.lo.length xk0)) (.raw (.slice bk1 k.no.length xk1)) (.raw (.slice bk2 k.ra.length xk2)) (.raw (.slice bk3 k.rt.length xk3)) (.raw (.slice bk4 k.z0.length xk4)) (.raw (.slice bk5 k.z1.length xk5)) (.raw (.slice bk6 k.z2.length xk6))), .seg Dh, .raw e2', .seg Y2, .seg Y3]) (.slice a2 (T.set 0 s).length c2) ((T.set 0 s).map e2) := fun s => by
    obtain ⟨b, o, J2, z1, z2, z3, z4⟩ := l2.set (R := []) (i := 0) (f := 0) (r := e2 t) (vs := e2 s) (by rw [eTt]; rfl) (by simp [e2])
    obtain ⟨e2', Y2, Y3, rfl, y2, y3⟩ := split3 z1
    have eJ : denH [.seg H, (K.kB k.k0 k.k1 k.k2 k.k3 k.k4 k.k5 k.k6 k.k7 k.k8 k.k9 k.k10 k.k11 k.k12 (.raw (.slice bk0 k.lo.length xk0)) (.raw (.slice bk1 k.no.length xk1)) (.raw (.slice bk2 k.ra.length xk2)) (.raw (.slice bk3 k.rt.length xk3)) (.raw (.slice bk4 k.z0.length xk4)) (.raw (.slice bk5 k.z1.length xk5)) (.raw (.slice bk6 k.z2.length xk6))), .seg Dh, .raw er1, .seg X2, .seg X3] = denH [.seg H, (K.kB k.k0 k.k1 k.k2 k.k3 k.k4 k.k5 k.k6 k.k7 k.k8 k.k9 k.k10 k.k11 k.k12 (.raw (.slice bk0 k.lo.length xk0)) (.raw (.slice bk1 k.no.length xk1)) (.raw (.slice bk2 k.ra.length xk2)) (.raw (.slice bk3 k.rt.length xk3)) (.raw (.slice bk4 k.z0.length xk4)) (.raw (.slice bk5 k.z1.length xk5)) (.raw (.slice bk6 k.z2.length xk6))), .seg Dh] ++ ((er1 :: (X2 ++ X3)) ++ []) := by simp [denH, denL, It.den, den0]
    have eK : denH [.seg H, (K.kB k.k0 k.k1 k.k2 k.k3 k.k4 k.k5 k.k6 k.k7 k.k8 k.k9 k.k10 k.k11 k.k12 (.raw (.slice bk0 k.lo.length xk0)) (.raw (.slice bk1 k.no.length xk1)) (.raw (.slice bk2 k.ra.length xk2)) (.raw (.slice bk3 k.rt.length xk3)) (.raw (.slice bk4 k.z0.length xk4)) (.raw (.slice bk5 k.z1.length xk5)) (.raw (.slice bk6 k.z2.length xk6))), .seg Dh, .raw e2', .seg Y2, .seg Y3] = denH [.seg H, (K.kB k.k0 k.k1 k.k2 k.k3 k.k4 k.k5 k.k6 k.k7 k.k8 k.k9 k.k10 k.k11 k.k12 (.raw (.slice bk0 k.lo.length xk0)) (.raw (.slice bk1 k.no.length xk1)) (.raw (.slice bk2 k.ra.length xk2)) (.raw (.slice bk3 k.rt.length xk3)) (.raw (.slice bk4 k.z0.length xk4)) (.raw (.slice bk5 k.z1.length xk5)) (.raw (.slice bk6 k.z2.length xk6))), .seg Dh] ++ ((e2' :: (Y2 ++ Y3)) ++ []) := by simp [denH, denL, It.den, den0]
    have es : (T.map e2).set 0 (setL (e2 t) 0 (e2 s)) = (T.set 0 s).map e2 := by rw [eTt]; rfl
    rw [es] at z4
    refine ⟨b, o, e2', Y2, Y3, y2, y3, z2, fun Γ => ?_, ?_⟩
    · rw [eJ, eK]; exact z3 Γ _ 2 rfl rfl rfl
    · rw [List.length_set]
      exact LsS.rowsI (I := [.seg H, (K.kB k.k0 k.k1 k.k2 k.k3 k.k4 k.k5 k.k6 k.k7 k.k8 k.k9 k.k10 k.k11 k.k12 (.raw (.slice bk0 k.lo.length xk0)) (.raw (.slice bk1 k.no.length xk1)) (.raw (.slice bk2 k.ra.length xk2)) (.raw (.slice bk3 k.rt.length xk3)) (.raw (.slice bk4 k.z0.length xk4)) (.raw (.slice bk5 k.z1.length xk5)) (.raw (.slice bk6 k.z2.length xk6))), .seg Dh]) (K := [.raw e2', .seg Y2, .seg Y3]) rfl z4 (by decide) (by simp [denL, It.den])
  rcases (show wn what 0 4 = 0 ∨ wn what 0 4 = 1 ∨ wn what 0 4 = 2 ∨ wn what 0 4 = 3 ∨ wn what 0 4 = 4 by omega) with hw | hw | hw | hw | hw
  · obtain ⟨b1, o1, r1⟩ := hT.rowM ht0
    have p0 := r1.ptr
    have eJ : denH [.seg H, (K.kB k.k0 k.k1 k.k2 k.k3 k.k4 k.k5 k.k6 k.k7 k.k8 k.k9 k.k10 k.k11 k.k12 (.raw (.slice bk0 k.lo.length xk0)) (.raw (.slice bk1 k.no.length xk1)) (.raw (.slice bk2 k.ra.length xk2)) (.raw (.slice bk3 k.rt.length xk3)) (.raw (.slice bk4 k.z0.length xk4)) (.raw (.slice bk5 k.z1.length xk5)) (.raw (.slice bk6 k.z2.length xk6))), .seg Dh, .raw er1, .seg X2, .seg X3, .blk .fix [sI t.a, sI t.b]] = denH [.seg H, (K.kB k.k0 k.k1 k.k2 k.k3 k.k4 k.k5 k.k6 k.k7 k.k8 k.k9 k.k10 k.k11 k.k12 (.raw (.slice bk0 k.lo.length xk0)) (.raw (.slice bk1 k.no.length xk1)) (.raw (.slice bk2 k.ra.length xk2)) (.raw (.slice bk3 k.rt.length xk3)) (.raw (.slice bk4 k.z0.length xk4)) (.raw (.slice bk5 k.z1.length xk5)) (.raw (.slice bk6 k.z2.length xk6))), .seg Dh] ++ ((er1 :: (X2 ++ X3)) ++ [some ⟨.fix, e2 t⟩]) := by simp [denH, denL, It.den, den0, e2]
    have sx := src_item (I := [.seg H, (K.kB k.k0 k.k1 k.k2 k.k3 k.k4 k.k5 k.k6 k.k7 k.k8 k.k9 k.k10 k.k11 k.k12 (.raw (.slice bk0 k.lo.length xk0)) (.raw (.slice bk1 k.no.length xk1)) (.raw (.slice bk2 k.ra.length xk2)) (.raw (.slice bk3 k.rt.length xk3)) (.raw (.slice bk4 k.z0.length xk4)) (.raw (.slice bk5 k.z1.length xk5)) (.raw (.slice bk6 k.z2.length xk6))), .seg Dh, .raw er1, .seg X2, .seg X3, .blk .fix [sI t.a, sI t.b]]) (k := 6) (o := 0) (n := 1) (c := 1) (w := 2) rfl (by simp)
    rw [eJ] at sx
    obtain ⟨v, J2, Y4, z1, z2, z3⟩ := l2.app (w := 2) (eby := 16) (R := [some ⟨.fix, e2 t⟩]) (new := [e2 t]) sx (by simp [e2]) (by decide) (by simp; omega) (by simp; omega)
    obtain ⟨a3, c3, rfl⟩ := z3.slc
    obtain ⟨e2', Y2, Y3, rfl, gy2, gy3⟩ := split3 z1
    have e3' : (T.map e2 ++ [e2 t]).length = T.length + 1 := by simp
    rw [e3'] at z2 z3
    have h68 : ∀ Γ, opA Γ (.append 2 16 (.const (.slice a2 T.length c2)) (.const (denV (ofs [.seg H, (K.kB k.k0 k.k1 k.k2 k.k3 k.k4 k.k5 k.k6 k.k7 k.k8 k.k9 k.k10 k.k11 k.k12 (.raw (.slice bk0 k.lo.length xk0)) (.raw (.slice bk1 k.no.length xk1)) (.raw (.slice bk2 k.ra.length xk2)) (.raw (.slice bk3 k.rt.length xk3)) (.raw (.slice bk4 k.z0.length xk4)) (.raw (.slice bk5 k.z1.length xk5)) (.raw (.slice bk6 k.z2.length xk6))), .seg Dh, .raw er1, .seg X2, .seg X3, .blk .fix [sI t.a, sI t.b]]) (.sl 6 0 1 1)))) [] (denH [.seg H, (K.kB k.k0 k.k1 k.k2 k.k3 k.k4 k.k5 k.k6 k.k7 k.k8 k.k9 k.k10 k.k11 k.k12 (.raw (.slice bk0 k.lo.length xk0)) (.raw (.slice bk1 k.no.length xk1)) (.raw (.slice bk2 k.ra.length xk2)) (.raw (.slice bk3 k.rt.length xk3)) (.raw (.slice bk4 k.z0.length xk4)) (.raw (.slice bk5 k.z1.length xk5)) (.raw (.slice bk6 k.z2.length xk6))), .seg Dh, .raw er1, .seg X2, .seg X3, .blk .fix [sI t.a, sI t.b]]) = some (.slice a3 (T.length + 1) c3, denH [.seg H, (K.kB k.k0 k.k1 k.k2 k.k3 k.k4 k.k5 k.k6 k.k7 k.k8 k.k9 k.k10 k.k11 k.k12 (.raw (.slice bk0 k.lo.length xk0)) (.raw (.slice bk1 k.no.length xk1)) (.raw (.slice bk2 k.ra.length xk2)) (.raw (.slice bk3 k.rt.length xk3)) (.raw (.slice bk4 k.z0.length xk4)) (.raw (.slice bk5 k.z1.length xk5)) (.raw (.slice bk6 k.z2.length xk6))), .seg Dh, .raw e2', .seg Y2, .seg Y3, .blk .fix [sI t.a, sI t.b], .seg Y4]) := fun Γ => by
      rw [eJ, z2 Γ]; simp [denH, denL, It.den, den0, e2]
    have hT3 : RowsW 2 (denH [.seg H, (K.kB k.k0 k.k1 k.k2 k.k3 k.k4 k.k5 k.k6 k.k7 k.k8 k.k9 k.k10 k.k11 k.k12 (.raw (.slice bk0 k.lo.length xk0)) (.raw (.slice bk1 k.no.length xk1)) (.raw (.slice bk2 k.ra.length xk2)) (.raw (.slice bk3 k.rt.length xk3)) (.raw (.slice bk4 k.z0.length xk4)) (.raw (.slice bk5 k.z1.length xk5)) (.raw (.slice bk6 k.z2.length xk6))), .seg Dh, .raw e2', .seg Y2, .seg Y3, .blk .fix [sI t.a, sI t.b], .seg Y4]) (.slice a3 (T.length + 1) c3) ((T ++ [t]).map e2) := by
      rw [List.map_append]
      exact LsS.rowsI (I := [.seg H, (K.kB k.k0 k.k1 k.k2 k.k3 k.k4 k.k5 k.k6 k.k7 k.k8 k.k9 k.k10 k.k11 k.k12 (.raw (.slice bk0 k.lo.length xk0)) (.raw (.slice bk1 k.no.length xk1)) (.raw (.slice bk2 k.ra.length xk2)) (.raw (.slice bk3 k.rt.length xk3)) (.raw (.slice bk4 k.z0.length xk4)) (.raw (.slice bk5 k.z1.length xk5)) (.raw (.slice bk6 k.z2.length xk6))), .seg Dh]) (K := [.raw e2', .seg Y2, .seg Y3, .blk .fix [sI t.a, sI t.b], .seg Y4]) rfl z3 (by decide) (by simp [denL, It.den, den0, e2])
    have cF := c40 hT3 (by simp; omega)
    have sF : stpF (T ++ [t]) = false := by
      cases hq : stpF (T ++ [t]) with
      | false => rfl
      | true =>
        have := (K.stpF_iff.1 hq).2.2
        rw [eTt] at this
        simp at this
    rw [sF] at cF
    have tr := tree9 k.k0 k.k1 k.k2 k.k3 k.k4 k.k5 k.k6 k.k7 k.k8 k.k9 k.k10 k.k11 k.k12 ((dealF k).y) ((dealF k).mo) ((dealF k).ba) ((dealF k).fe) ((dealF k).re) ((dealF k).ta) ((dealF k).ad) ((dealF k).cu) ((dealF k).oc) ((dealF k).ic) ((dealF k).la) ((dealF k).lo) ((dealF k).ce) (.slice bk0 k.lo.length xk0) (.slice bk1 k.no.length xk1) (.slice bk2 k.ra.length xk2) (.slice bk3 k.rt.length xk3) (.slice bk4 k.z0.length xk4) (.slice bk5 k.z1.length xk5) (.slice bk6 k.z2.length xk6) m cut what by_ la xa ya (some a1) a2 a3 none l.length lc (l.drop c).length xc (l.take c).length yc c1 T.length c2 (T.length + 1) c3 0 0 b1 o1 ea0 ea1 ea2 ea3 ea4 (dealF k).l.length ec0 (dealF k).n.length ec1 (dealF k).s0.length ec2 (dealF k).s1.length ec3 (dealF k).s2.length ec4 t.a t.b er1 e2' H Dh X1 X2 X3 Y2 Y3 Y4 []
    rw [w1, ec] at tr
    have := fnS_tree (Q := fun v _ => v = .bool true) mixed (gE_ok 0) (gE_q 0) (cE_ok 0) st9 tr ⟨rfl, rfl⟩ ⟨opA_call (args := [_]) rfl eD, ⟨rfl, ⟨hidx _, ⟨hpw, ⟨rfl, ⟨rfl, ⟨rfl, ⟨opA_pre rfl rfl (hcx _) [.blk .fix []], ⟨h1 _, ⟨rfl, ⟨rfl, ⟨opA_pre rfl rfl (hcy _) [.blk .fix [], .seg X1], ⟨g2, ⟨h2 _, ⟨rfl, ⟨⟨⟨_, hcx _⟩, eqV_slc _ _ _⟩, ⟨⟨⟨_, hcy _⟩, eqV_slc _ _ _⟩, ⟨⟨⟨_, opA_pre rfl rfl (hcy _) [.blk .fix []]⟩, eqV_slc _ _ _⟩, ⟨opA_call (args := [_]) rfl cL, ⟨opA_call (args := [_]) rfl cT, ⟨rfl, ⟨rfl, ⟨fun hb => ⟨p0 _ _, ⟨r1.all _, ⟨gy2, ⟨gy3, ⟨h68 _, ⟨opA_call (args := [_]) rfl cF, ⟨rfl, rfl⟩⟩⟩⟩⟩⟩⟩, fun hb => (by simp [hw] at hb)⟩⟩⟩⟩⟩⟩⟩⟩⟩⟩⟩⟩⟩⟩⟩⟩⟩⟩⟩⟩⟩⟩⟩
    simpa [kVal, denH, denL, It.den, denF, denV, denA, den0] using this
  · obtain ⟨b1, o1, e2', Y2, Y3, gy2, gy3, p0, st, hS⟩ := turn ⟨1 - (1 + wn by_ 0 99), 0⟩
    have cF := c40 hS (by simp; omega)
    rw [bad ⟨1 - (1 + wn by_ 0 99), 0⟩ (fun q => by have := q.1; simp at this; omega)] at cF
    rw [List.length_set] at cF
    have tr := tree9 k.k0 k.k1 k.k2 k.k3 k.k4 k.k5 k.k6 k.k7 k.k8 k.k9 k.k10 k.k11 k.k12 ((dealF k).y) ((dealF k).mo) ((dealF k).ba) ((dealF k).fe) ((dealF k).re) ((dealF k).ta) ((dealF k).ad) ((dealF k).cu) ((dealF k).oc) ((dealF k).ic) ((dealF k).la) ((dealF k).lo) ((dealF k).ce) (.slice bk0 k.lo.length xk0) (.slice bk1 k.no.length xk1) (.slice bk2 k.ra.length xk2) (.slice bk3 k.rt.length xk3) (.slice bk4 k.z0.length xk4) (.slice bk5 k.z1.length xk5) (.slice bk6 k.z2.length xk6) m cut what by_ la xa ya (some a1) a2 none none l.length lc (l.drop c).length xc (l.take c).length yc c1 T.length c2 0 0 0 0 b1 o1 ea0 ea1 ea2 ea3 ea4 (dealF k).l.length ec0 (dealF k).n.length ec1 (dealF k).s0.length ec2 (dealF k).s1.length ec3 (dealF k).s2.length ec4 0 0 er1 e2' H Dh X1 X2 X3 Y2 Y3 [] []
    rw [w1, ec, wn1, wrap64 (x := 1 - (1 + wn by_ 0 99)) (by omega) (by omega)] at tr
    have := fnS_tree (Q := fun v _ => v = .bool true) mixed (gE_ok 0) (gE_q 0) (cE_ok 0) st9 tr ⟨rfl, rfl⟩ ⟨opA_call (args := [_]) rfl eD, ⟨rfl, ⟨hidx _, ⟨hpw, ⟨rfl, ⟨rfl, ⟨rfl, ⟨opA_pre rfl rfl (hcx _) [.blk .fix []], ⟨h1 _, ⟨rfl, ⟨rfl, ⟨opA_pre rfl rfl (hcy _) [.blk .fix [], .seg X1], ⟨g2, ⟨h2 _, ⟨rfl, ⟨⟨⟨_, hcx _⟩, eqV_slc _ _ _⟩, ⟨⟨⟨_, hcy _⟩, eqV_slc _ _ _⟩, ⟨⟨⟨_, opA_pre rfl rfl (hcy _) [.blk .fix []]⟩, eqV_slc _ _ _⟩, ⟨opA_call (args := [_]) rfl cL, ⟨opA_call (args := [_]) rfl cT, ⟨rfl, ⟨rfl, ⟨fun hb => (by simp [hw] at hb), fun hb => ⟨fun hb => ⟨p0 _ _, ⟨gy2, ⟨gy3, ⟨st _, ⟨opA_call (args := [_]) rfl cF, ⟨rfl, rfl⟩⟩⟩⟩⟩⟩, fun hb => (by simp [hw] at hb)⟩⟩⟩⟩⟩⟩⟩⟩⟩⟩⟩⟩⟩⟩⟩⟩⟩⟩⟩⟩⟩⟩⟩⟩
    simpa [kVal, denH, denL, It.den, denF, denV, denA, den0] using this
  · obtain ⟨b1, o1, e2', Y2, Y3, gy2, gy3, p0, st, hS⟩ := turn ⟨3, 7 + (1 + wn by_ 0 99)⟩
    have cF := c40 hS (by simp; omega)
    rw [bad ⟨3, 7 + (1 + wn by_ 0 99)⟩ (fun q => by have := q.2; simp at this; omega)] at cF
    rw [List.length_set] at cF
    have tr := tree9 k.k0 k.k1 k.k2 k.k3 k.k4 k.k5 k.k6 k.k7 k.k8 k.k9 k.k10 k.k11 k.k12 ((dealF k).y) ((dealF k).mo) ((dealF k).ba) ((dealF k).fe) ((dealF k).re) ((dealF k).ta) ((dealF k).ad) ((dealF k).cu) ((dealF k).oc) ((dealF k).ic) ((dealF k).la) ((dealF k).lo) ((dealF k).ce) (.slice bk0 k.lo.length xk0) (.slice bk1 k.no.length xk1) (.slice bk2 k.ra.length xk2) (.slice bk3 k.rt.length xk3) (.slice bk4 k.z0.length xk4) (.slice bk5 k.z1.length xk5) (.slice bk6 k.z2.length xk6) m cut what by_ la xa ya (some a1) a2 none none l.length lc (l.drop c).length xc (l.take c).length yc c1 T.length c2 0 0 0 0 b1 o1 ea0 ea1 ea2 ea3 ea4 (dealF k).l.length ec0 (dealF k).n.length ec1 (dealF k).s0.length ec2 (dealF k).s1.length ec3 (dealF k).s2.length ec4 0 0 er1 e2' H Dh X1 X2 X3 Y2 Y3 [] []
    rw [w1, ec, wn1, wrap64 (x := 7 + (1 + wn by_ 0 99)) (by omega) (by omega)] at tr
    have := fnS_tree (Q := fun v _ => v = .bool true) mixed (gE_ok 0) (gE_q 0) (cE_ok 0) st9 tr ⟨rfl, rfl⟩ ⟨opA_call (args := [_]) rfl eD, ⟨rfl, ⟨hidx _, ⟨hpw, ⟨rfl, ⟨rfl, ⟨rfl, ⟨opA_pre rfl rfl (hcx _) [.blk .fix []], ⟨h1 _, ⟨rfl, ⟨rfl, ⟨opA_pre rfl rfl (hcy _) [.blk .fix [], .seg X1], ⟨g2, ⟨h2 _, ⟨rfl, ⟨⟨⟨_, hcx _⟩, eqV_slc _ _ _⟩, ⟨⟨⟨_, hcy _⟩, eqV_slc _ _ _⟩, ⟨⟨⟨_, opA_pre rfl rfl (hcy _) [.blk .fix []]⟩, eqV_slc _ _ _⟩, ⟨opA_call (args := [_]) rfl cL, ⟨opA_call (args := [_]) rfl cT, ⟨rfl, ⟨rfl, ⟨fun hb => (by simp [hw] at hb), fun hb => ⟨fun hb => (by simp [hw] at hb), fun hb => ⟨fun hb => ⟨p0 _ _, ⟨gy2, ⟨gy3, ⟨st _, ⟨opA_call (args := [_]) rfl cF, ⟨rfl, rfl⟩⟩⟩⟩⟩⟩, fun hb => (by simp [hw] at hb)⟩⟩⟩⟩⟩⟩⟩⟩⟩⟩⟩⟩⟩⟩⟩⟩⟩⟩⟩⟩⟩⟩⟩⟩⟩
    simpa [kVal, denH, denL, It.den, denF, denV, denA, den0] using this
  · obtain ⟨b1, o1, e2', Y2, Y3, gy2, gy3, p0, st, hS⟩ := turn ⟨1, 1 + wn by_ 0 99⟩
    have cF := c40 hS (by simp; omega)
    rw [bad ⟨1, 1 + wn by_ 0 99⟩ (fun q => by have := q.2; simp at this; omega)] at cF
    rw [List.length_set] at cF
    have tr := tree9 k.k0 k.k1 k.k2 k.k3 k.k4 k.k5 k.k6 k.k7 k.k8 k.k9 k.k10 k.k11 k.k12 ((dealF k).y) ((dealF k).mo) ((dealF k).ba) ((dealF k).fe) ((dealF k).re) ((dealF k).ta) ((dealF k).ad) ((dealF k).cu) ((dealF k).oc) ((dealF k).ic) ((dealF k).la) ((dealF k).lo) ((dealF k).ce) (.slice bk0 k.lo.length xk0) (.slice bk1 k.no.length xk1) (.slice bk2 k.ra.length xk2) (.slice bk3 k.rt.length xk3) (.slice bk4 k.z0.length xk4) (.slice bk5 k.z1.length xk5) (.slice bk6 k.z2.length xk6) m cut what by_ la xa ya (some a1) a2 none none l.length lc (l.drop c).length xc (l.take c).length yc c1 T.length c2 0 0 0 0 b1 o1 ea0 ea1 ea2 ea3 ea4 (dealF k).l.length ec0 (dealF k).n.length ec1 (dealF k).s0.length ec2 (dealF k).s1.length ec3 (dealF k).s2.length ec4 0 0 er1 e2' H Dh X1 X2 X3 Y2 Y3 [] []
    rw [w1, ec, wn1] at tr
    have := fnS_tree (Q := fun v _ => v = .bool true) mixed (gE_ok 0) (gE_q 0) (cE_ok 0) st9 tr ⟨rfl, rfl⟩ ⟨opA_call (args := [_]) rfl eD, ⟨rfl, ⟨hidx _, ⟨hpw, ⟨rfl, ⟨rfl, ⟨rfl, ⟨opA_pre rfl rfl (hcx _) [.blk .fix []], ⟨h1 _, ⟨rfl, ⟨rfl, ⟨opA_pre rfl rfl (hcy _) [.blk .fix [], .seg X1], ⟨g2, ⟨h2 _, ⟨rfl, ⟨⟨⟨_, hcx _⟩, eqV_slc _ _ _⟩, ⟨⟨⟨_, hcy _⟩, eqV_slc _ _ _⟩, ⟨⟨⟨_, opA_pre rfl rfl (hcy _) [.blk .fix []]⟩, eqV_slc _ _ _⟩, ⟨opA_call (args := [_]) rfl cL, ⟨opA_call (args := [_]) rfl cT, ⟨rfl, ⟨rfl, ⟨fun hb => (by simp [hw] at hb), fun hb => ⟨fun hb => (by simp [hw] at hb), fun hb => ⟨fun hb => (by simp [hw] at hb), fun hb => ⟨fun hb => ⟨p0 _ _, ⟨gy2, ⟨gy3, ⟨st _, ⟨opA_call (args := [_]) rfl cF, ⟨rfl, rfl⟩⟩⟩⟩⟩⟩, fun hb => (by simp [hw] at hb)⟩⟩⟩⟩⟩⟩⟩⟩⟩⟩⟩⟩⟩⟩⟩⟩⟩⟩⟩⟩⟩⟩⟩⟩⟩⟩
    simpa [kVal, denH, denL, It.den, denF, denV, denA, den0] using this
  · obtain ⟨_, _, _, ⟨Z, a4, c4, ⟨rfl, rfl, rfl⟩, lZ⟩, w⟩ := (loop9 (H := denH [.seg H, (K.kB k.k0 k.k1 k.k2 k.k3 k.k4 k.k5 k.k6 k.k7 k.k8 k.k9 k.k10 k.k11 k.k12 (.raw (.slice bk0 k.lo.length xk0)) (.raw (.slice bk1 k.no.length xk1)) (.raw (.slice bk2 k.ra.length xk2)) (.raw (.slice bk3 k.rt.length xk3)) (.raw (.slice bk4 k.z0.length xk4)) (.raw (.slice bk5 k.z1.length xk5)) (.raw (.slice bk6 k.z2.length xk6))), .seg Dh, .raw er1, .seg X2, .seg X3]) (n := 1 + wn by_ 0 99) ⟨by omega, by omega⟩).exact
    have hZ : RowsW 2 (denH [.seg H, (K.kB k.k0 k.k1 k.k2 k.k3 k.k4 k.k5 k.k6 k.k7 k.k8 k.k9 k.k10 k.k11 k.k12 (.raw (.slice bk0 k.lo.length xk0)) (.raw (.slice bk1 k.no.length xk1)) (.raw (.slice bk2 k.ra.length xk2)) (.raw (.slice bk3 k.rt.length xk3)) (.raw (.slice bk4 k.z0.length xk4)) (.raw (.slice bk5 k.z1.length xk5)) (.raw (.slice bk6 k.z2.length xk6))), .seg Dh, .raw er1, .seg X2, .seg X3, .seg Z]) (.slice a4 (16 + (1 + wn by_ 0 99)).toNat c4) (((List.range (16 + (1 + wn by_ 0 99)).toNat).map fun i => (⟨3, andI .i64 (i : Nat) 7⟩ : R2)).map e2) := LsS.rowsI (I := [.seg H, (K.kB k.k0 k.k1 k.k2 k.k3 k.k4 k.k5 k.k6 k.k7 k.k8 k.k9 k.k10 k.k11 k.k12 (.raw (.slice bk0 k.lo.length xk0)) (.raw (.slice bk1 k.no.length xk1)) (.raw (.slice bk2 k.ra.length xk2)) (.raw (.slice bk3 k.rt.length xk3)) (.raw (.slice bk4 k.z0.length xk4)) (.raw (.slice bk5 k.z1.length xk5)) (.raw (.slice bk6 k.z2.length xk6))), .seg Dh, .raw er1, .seg X2, .seg X3]) (K := [.seg Z]) rfl lZ (by decide) (by simp [denL, It.den])
    have cF := c40 hZ (by simp; omega)
    have sF : stpF ((List.range (16 + (1 + wn by_ 0 99)).toNat).map fun i => (⟨3, andI .i64 (i : Nat) 7⟩ : R2)) = false := by
      cases hq : stpF ((List.range (16 + (1 + wn by_ 0 99)).toNat).map fun i => (⟨3, andI .i64 (i : Nat) 7⟩ : R2)) with
      | false => rfl
      | true =>
        have := (K.stpF_iff.1 hq).1.2
        simp at this
        omega
    rw [sF] at cF
    have tr := tree9 k.k0 k.k1 k.k2 k.k3 k.k4 k.k5 k.k6 k.k7 k.k8 k.k9 k.k10 k.k11 k.k12 ((dealF k).y) ((dealF k).mo) ((dealF k).ba) ((dealF k).fe) ((dealF k).re) ((dealF k).ta) ((dealF k).ad) ((dealF k).cu) ((dealF k).oc) ((dealF k).ic) ((dealF k).la) ((dealF k).lo) ((dealF k).ce) (.slice bk0 k.lo.length xk0) (.slice bk1 k.no.length xk1) (.slice bk2 k.ra.length xk2) (.slice bk3 k.rt.length xk3) (.slice bk4 k.z0.length xk4) (.slice bk5 k.z1.length xk5) (.slice bk6 k.z2.length xk6) m cut what by_ la xa ya (some a1) a2 none a4 l.length lc (l.drop c).length xc (l.take c).length yc c1 T.length c2 0 0 (16 + (1 + wn by_ 0 99)).toNat c4 0 0 ea0 ea1 ea2 ea3 ea4 (dealF k).l.length ec0 (dealF k).n.length ec1 (dealF k).s0.length ec2 (dealF k).s1.length ec3 (dealF k).s2.length ec4 0 0 er1 none H Dh X1 X2 X3 [] [] [] Z
    rw [w1, ec, wn1] at tr
    have := fnS_tree (Q := fun v _ => v = .bool true) mixed (gE_ok 0) (gE_q 0) (cE_ok 0) st9 tr ⟨rfl, rfl⟩ ⟨opA_call (args := [_]) rfl eD, ⟨rfl, ⟨hidx _, ⟨hpw, ⟨rfl, ⟨rfl, ⟨rfl, ⟨opA_pre rfl rfl (hcx _) [.blk .fix []], ⟨h1 _, ⟨rfl, ⟨rfl, ⟨opA_pre rfl rfl (hcy _) [.blk .fix [], .seg X1], ⟨g2, ⟨h2 _, ⟨rfl, ⟨⟨⟨_, hcx _⟩, eqV_slc _ _ _⟩, ⟨⟨⟨_, hcy _⟩, eqV_slc _ _ _⟩, ⟨⟨⟨_, opA_pre rfl rfl (hcy _) [.blk .fix []]⟩, eqV_slc _ _ _⟩, ⟨opA_call (args := [_]) rfl cL, ⟨opA_call (args := [_]) rfl cT, ⟨rfl, ⟨rfl, ⟨fun hb => (by simp [hw] at hb), fun hb => ⟨fun hb => (by simp [hw] at hb), fun hb => ⟨fun hb => (by simp [hw] at hb), fun hb => ⟨fun hb => (by simp [hw] at hb), fun hb => ⟨K.Wp.conv w (by show denF _ _ = denF _ _; kernel_rfl) (by simp [denH, denL, It.den, den0, e2, e3]) fun e s h ⟨p1, p2, p3⟩ => ⟨p1, p2.trans (by show denF _ _ = denF _ _; kernel_rfl), p3.trans (by simp [denH, denL, It.den, den0, e2, e3])⟩, ⟨opA_call (args := [_]) rfl cF, ⟨rfl, rfl⟩⟩⟩⟩⟩⟩⟩⟩⟩⟩⟩⟩⟩⟩⟩⟩⟩⟩⟩⟩⟩⟩⟩⟩⟩⟩⟩⟩⟩
    simpa [kVal, denH, denL, It.den, denF, denV, denA, den0] using this
theorem lawA9 (H : Heap) (xs : List Value) (h : F2 (fun p a => ArgOk H p.1 p.2 a) [(true, [.f (.i .i64), .f (.i .i64), .f (.i .i64), .f (.i .i64), .f (.i .i64), .f (.i .i64), .f (.i .i64), .f (.i .i64), .f (.i .i64), .f (.i .i64), .f (.i .i64), .f (.i .i64), .f (.i .i64), .s 1 [.i .i64], .s 1 [.i .i64], .s 1 [.i .i64], .s 1 [.i .i64], .s 1 [.i .i64], .s 1 [.i .i64], .s 1 [.i .i64]]), (false, [LT.f (.i .i64)]), (false, [LT.f (.i .i64)]), (false, [LT.f (.i .i64)]), (false, [LT.f (.i .i64)])] xs) : Sim Try.prog 9 xs H fun v _ => v = .bool true := by
  cases h with
  | cons h0 h => cases h with
    | cons h1 h => cases h with
      | cons h2 h => cases h with
        | cons h3 h => cases h with
          | cons h4 h => cases h with
            | nil =>
              obtain ⟨B, rfl, hB⟩ := arg_agg h0
              obtain ⟨k, hk, hn⟩ := kv_of hB
              obtain ⟨m, rfl, _⟩ := lt_int (arg_one h1)
              obtain ⟨cut, rfl, _⟩ := lt_int (arg_one h2)
              obtain ⟨what, rfl, _⟩ := lt_int (arg_one h3)
              obtain ⟨by_, rfl, _⟩ := lt_int (arg_one h4)
              exact law9 hk hn
end L
end Go.Proofs.Ytgdojnamjkhknaa
