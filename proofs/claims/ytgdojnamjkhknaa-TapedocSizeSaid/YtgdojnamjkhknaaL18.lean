/-
  The law TapedocSize.
-/
import Derived.Test.YtgdojnamjkhknaaTd
import Derived.Test.YtgdojnamjkhknaaSamA
import Derived.Test.YtgdojnamjkhknaaClTapedocRuns
import Derived.Test.YtgdojnamjkhknaaWi
namespace Go.Proofs.Ytgdojnamjkhknaa
open Go.Am
set_option linter.all false
set_option maxRecDepth 100000
namespace TQ
def sRuns : List Value → Option (Bool × Value)
  | [] => some (true, .bool true)
  | _ => none
theorem runs_ok : ∀ args v, sRuns args = some (true, v) → args.all (belowV 0) = true ∧ belowV 0 v = true ∧ Sim Try.prog 15 args [] fun v1 _ => v1 = v := fun args v e => by
  unfold sRuns at e
  split at e
  · cases e; exact ⟨rfl, rfl, ClTapedocRuns.sim.mono fun _ _ q => q.1⟩
  · cases e
abbrev tbl : Plain := [(15, sRuns), (30, sWithin)]
theorem tbl_ok : PlainOk Try.prog tbl := .cons runs_ok (.cons (within_ok mixed st30) .nil)
end TQ
namespace T18
open TQ
open WB (byt byt_len wd)
open TE (tapeOk tapeI tapeP encF tapeP_len)
open TL (TN linesF TNOk)
open TD (wn600 tapeOk_k linesF_in)
noncomputable def gK : Env := fun f => match f with
  | 27 => smry (preSame 1 br) resSame
  | 51 => runE (Plain.env PK.tblP (PK.E1.gE 0)) TL.il51
  | 60 => smry TE.E60.pre TE.E60.res
  | 61 => runE (Plain.env [] (DC.gE 0)) DC.il61
  | _ => fun _ _ => none
theorem gK_ok : EnvOk Try.prog gK := fun f => by
  unfold gK
  split
  · exact S27.sim
  · exact TL.sum51
  · exact TE.E60.summ
  · exact DC.sum61
  · exact fun args h v h' e => by cases e
theorem gK_q : QuietEnv qt gK := fun f args h v h' hf e => by cases hf
noncomputable abbrev gE (k : Nat) : Env := inE tbl [] k gK
noncomputable abbrev cE (k : Nat) : CallS := callS tbl [] gK 100 k
theorem gE_q (k : Nat) : QuietEnv qt (Plain.env tbl (gE k)) := Plain.quiet (inE_quiet gK_q (fun f F h => by cases h) k)
theorem gE_ok (k : Nat) : EnvOk Try.prog (Plain.env tbl (gE k)) := Plain.ok tbl_ok (inE_ok (qt := qt) mixed tbl_ok .nil (fun f F h => by cases h) gK_ok gK_q k)
theorem cE_ok (k : Nat) : CallOk (Plain.env tbl (gE k)) (cE k) := callS_ok k
/-- cascade/cascadelaw14.TapedocSize -/
def il18 : FnIL := ⟨93, [.tmp 6],
 .seq (.reg [
    ⟨(some 3), none, .box (.tmp 0)⟩,
    ⟨(some 6), none, .mov (.const (.bool false))⟩])
 (.seq (.reg [
    ⟨(some 15), none, .load (.tmp 3) (some 6)⟩,
    ⟨(some 16), none, .call 51 [(.tmp 15)]⟩,
    ⟨(some 7), none, .mov (.tmp 16)⟩])
 (.seq (.reg [
    ⟨(some 17), none, .mov (.tmp 1)⟩,
    ⟨(some 18), none, .call 30 [(.tmp 17), (.const (.int .i64 1)), (.const (.int .i64 600))]⟩,
    ⟨(some 19), none, .mov (.tmp 2)⟩,
    ⟨(some 20), none, .call 30 [(.tmp 19), (.const (.int .i64 1)), (.const (.int .i64 600))]⟩,
    ⟨(some 8), none, .mov (.tmp 18)⟩,
    ⟨(some 9), none, .mov (.tmp 20)⟩])
 (.seq (.reg [
    ⟨(some 21), none, .mov (.tmp 8)⟩,
    ⟨(some 22), none, .mov (.tmp 7)⟩,
    ⟨(some 23), none, .call 60 [(.tmp 21), (.tmp 22)]⟩,
    ⟨(some 24), none, .mov (.tmp 9)⟩,
    ⟨(some 25), none, .mov (.tmp 7)⟩,
    ⟨(some 26), none, .call 60 [(.tmp 24), (.tmp 25)]⟩,
    ⟨(some 10), none, .mov (.tmp 23)⟩,
    ⟨(some 11), none, .mov (.tmp 26)⟩])
 (.seq (.seq (.reg [
     ⟨(some 27), none, .mov (.tmp 10)⟩,
     ⟨(some 28), none, .len (.tmp 27)⟩,
     ⟨(some 29), none, .mov (.tmp 7)⟩,
     ⟨(some 30), none, .len (.tmp 29)⟩,
     ⟨(some 31), none, .bin .mul (.const (.int .i64 7)) (.tmp 30)⟩,
     ⟨(some 32), none, .bin .add (.const (.int .i64 2)) (.tmp 31)⟩,
     ⟨(some 33), none, .bin .mul (.const (.int .i64 8)) (.tmp 32)⟩,
     ⟨(some 34), none, .bin .neq (.tmp 28) (.tmp 33)⟩,
     ⟨(some 35), none, .mov (.tmp 34)⟩,
     ⟨(some 36), (some (35, false)), .mov (.tmp 11)⟩,
     ⟨(some 37), (some (35, false)), .len (.tmp 36)⟩,
     ⟨(some 38), (some (35, false)), .mov (.tmp 10)⟩,
     ⟨(some 39), (some (35, false)), .len (.tmp 38)⟩,
     ⟨(some 40), (some (35, false)), .bin .neq (.tmp 37) (.tmp 39)⟩,
     ⟨(some 41), none, .pick (.tmp 35) (.const (.bool true)) (.tmp 40)⟩,
     ⟨(some 42), none, .mov (.tmp 41)⟩,
     ⟨(some 43), (some (42, false)), .mov (.tmp 10)⟩,
     ⟨(some 44), (some (42, false)), .len (.tmp 43)⟩,
     ⟨(some 45), (some (42, false)), .bin .lss (.tmp 44) (.const (.int .i64 16))⟩,
     ⟨(some 46), none, .pick (.tmp 42) (.const (.bool true)) (.tmp 45)⟩])
  (.ite (.tmp 46)
    (.seq (.reg [
       ⟨(some 6), none, .mov (.const (.bool false))⟩])
    (.ret))
    (.skip)))
 (.seq (.reg [
    ⟨(some 48), none, .mov (.tmp 8)⟩,
    ⟨(some 49), none, .call 60 [(.tmp 48), (.const (.slice none 0 0))]⟩,
    ⟨(some 50), none, .call 61 [(.tmp 49)]⟩,
    ⟨(some 47), none, .mov (.tmp 50)⟩,
    ⟨(some 51), none, .ext 0 (.tmp 47)⟩,
    ⟨(some 52), none, .ext 1 (.tmp 47)⟩,
    ⟨(some 53), none, .ext 2 (.tmp 47)⟩,
    ⟨(some 12), none, .mov (.tmp 51)⟩,
    ⟨(some 13), none, .mov (.tmp 52)⟩,
    ⟨(some 14), none, .mov (.tmp 53)⟩])
 (.seq (.dreg [
    ⟨(some 54), none, .mov (.tmp 10)⟩,
    ⟨(some 55), none, .slice 1 (.tmp 54) (some (.const (.int .i64 8))) none none⟩,
    ⟨(some 56), none, .mov (.tmp 11)⟩,
    ⟨(some 57), none, .slice 1 (.tmp 56) (some (.const (.int .i64 8))) none none⟩,
    ⟨(some 58), none, .call 27 [(.tmp 55), (.tmp 57)]⟩,
    ⟨(some 59), none, .mov (.tmp 58)⟩,
    ⟨(some 60), (some (59, true)), .mov (.tmp 10)⟩,
    ⟨(some 61), (some (59, true)), .slice 1 (.tmp 60) none (some (.const (.int .i64 8))) none⟩,
    ⟨(some 62), (some (59, true)), .mov (.tmp 11)⟩,
    ⟨(some 63), (some (59, true)), .slice 1 (.tmp 62) none (some (.const (.int .i64 8))) none⟩,
    ⟨(some 64), (some (59, true)), .call 27 [(.tmp 61), (.tmp 63)]⟩,
    ⟨(some 65), (some (59, true)), .mov (.tmp 8)⟩,
    ⟨(some 66), (some (59, true)), .mov (.tmp 9)⟩,
    ⟨(some 67), (some (59, true)), .bin .eql (.tmp 65) (.tmp 66)⟩,
    ⟨(some 68), (some (59, true)), .eqv false .bool (.tmp 64) (.tmp 67)⟩,
    ⟨(some 69), none, .pick (.tmp 59) (.tmp 68) (.const (.bool false))⟩,
    ⟨(some 70), none, .mov (.tmp 69)⟩,
    ⟨(some 71), (some (70, true)), .mov (.tmp 12)⟩,
    ⟨(some 72), (some (70, true)), .mov (.tmp 8)⟩,
    ⟨(some 73), (some (70, true)), .bin .eql (.tmp 71) (.tmp 72)⟩,
    ⟨(some 74), none, .pick (.tmp 70) (.tmp 73) (.const (.bool false))⟩,
    ⟨(some 75), none, .mov (.tmp 74)⟩,
    ⟨(some 76), (some (75, true)), .mov (.tmp 13)⟩,
    ⟨(some 77), (some (75, true)), .len (.tmp 76)⟩,
    ⟨(some 78), (some (75, true)), .bin .eql (.tmp 77) (.const (.int .i64 0))⟩,
    ⟨(some 79), none, .pick (.tmp 75) (.tmp 78) (.const (.bool false))⟩,
    ⟨(some 80), none, .mov (.tmp 79)⟩,
    ⟨(some 81), (some (80, true)), .mov (.tmp 14)⟩,
    ⟨(some 82), (some (80, true)), .bin .eql (.tmp 81) (.const (.int .i64 0))⟩,
    ⟨(some 83), none, .pick (.tmp 80) (.tmp 82) (.const (.bool false))⟩,
    ⟨(some 84), none, .mov (.tmp 83)⟩,
    ⟨(some 85), (some (84, true)), .mov (.tmp 7)⟩,
    ⟨(some 86), (some (84, true)), .call 60 [(.const (.int .i64 601)), (.tmp 85)]⟩,
    ⟨(some 87), (some (84, true)), .len (.tmp 86)⟩,
    ⟨(some 88), (some (84, true)), .bin .eql (.tmp 87) (.const (.int .i64 0))⟩,
    ⟨(some 89), none, .pick (.tmp 84) (.tmp 88) (.const (.bool false))⟩,
    ⟨(some 90), none, .mov (.tmp 89)⟩,
    ⟨(some 91), (some (90, true)), .call 15 []⟩,
    ⟨(some 92), none, .pick (.tmp 90) (.tmp 91) (.const (.bool false))⟩,
    ⟨(some 6), none, .mov (.tmp 92)⟩] [])
 (.ret)))))))⟩
theorem st18 : stF Try.prog qt 18 = some il18 := by kernel_rfl
def hn18 (u0 u1 u2 u3 u4 u5 : Value) (a1 a2 a3 a4 a5 a6 a7 a8 a9 a10 : Option Addr) (n1 n2 n3 n4 n6 n7 n8 n9 c1 c2 c3 c4 c5 c6 c7 c8 c9 c10 : Nat) (p q m : Int) (r : Bool) (H X1 X2 X3 X4 X5 X6 : Heap) : Hs := (.use 26000016 (.raw (.slice a1 n1 c1)) ⟨[], [.seg X1]⟩ (.use 26000023 (.raw (.slice a2 n2 c2)) ⟨[], [.seg X2]⟩ (.use 26000026 (.raw (.slice a3 n3 c3)) ⟨[], [.seg X3]⟩ (.no (.con (.con (.con (.con (.con (.no (.con (.con (.con (.no (.use 26000049 (.raw (.slice a4 n4 c4)) ⟨[], [.seg X4]⟩ (.use 26000050 (.raw (.tuple ⟨[(.int .i64 m), (.slice a5 0 c5), (.int .i64 0)]⟩)) ⟨[], [.seg X5]⟩ (.use 17000055 (.raw (.slice a6 n6 c6)) ⟨[], []⟩ (.use 17000057 (.raw (.slice a7 n7 c7)) ⟨[], []⟩ (.use 26000058 (sB true) ⟨[], []⟩ (.con (.con (.use 17000061 (.raw (.slice a8 n8 c8)) ⟨[], []⟩ (.con (.con (.use 17000063 (.raw (.slice a9 n9 c9)) ⟨[], []⟩ (.con (.use 26000064 (sB r) ⟨[], []⟩ (.con (.con (.con (.pur 10000067 (.bool r) (.con (.pur 11000068 (.bool true) (.con (.con (.con (.con (.pur 10000073 (.bool true) (.con (.con (.con (.con (.con (.join 3 (.con (.con (.con .nil))) (.con (.con (.con .nil))) (.yes (.con (.use 26000086 (.raw (.slice a10 0 c10)) ⟨[], [.seg X6]⟩ (.con (.con (.con (.join 2 (.con (.con .nil)) (.con (.con .nil)) .nil)))))))))))))))))))))))))))))))))))))))))))))))))))
theorem tree18 (u0 u1 u2 u3 u4 u5 : Value) (a1 a2 a3 a4 a5 a6 a7 a8 a9 a10 : Option Addr) (n1 n2 n3 n4 n6 n7 n8 n9 c1 c2 c3 c4 c5 c6 c7 c8 c9 c10 : Nat) (p q m : Int) (r : Bool) (H X1 X2 X3 X4 X5 X6 : Heap) : fnS tbl (gE 0) (cE 0) 300 il18 (hn18 u0 u1 u2 u3 u4 u5 a1 a2 a3 a4 a5 a6 a7 a8 a9 a10 n1 n2 n3 n4 n6 n7 n8 n9 c1 c2 c3 c4 c5 c6 c7 c8 c9 c10 p q m r H X1 X2 X3 X4 X5 X6) [(.raw (.agg ⟨[u0, u1, u2, u3, u4, u5]⟩)), (sI p), (sI q)] [.seg H] =
(.claim (opA (Plain.env tbl (gE 0)) (.call 51 [(.const (.agg ⟨[u0, u1, u2, u3, u4, u5]⟩))]) [] (denH [.seg H, .blk .fix [(.raw u0), (.raw u1), (.raw u2), (.raw u3), (.raw u4), (.raw u5)]]) = some ((.slice a1 n1 c1), denH [.seg H, .blk .fix [(.raw u0), (.raw u1), (.raw u2), (.raw u3), (.raw u4), (.raw u5)], .seg X1]))
 (.req (preWithin 1 600) (.req (preWithin 1 600) (.claim (opA (Plain.env tbl (gE 0)) (.call 60 [(.const (.int .i64 (wn p 1 600))), (.const (.slice a1 n1 c1))]) [] (denH [.seg H, .blk .fix [(.raw u0), (.raw u1), (.raw u2), (.raw u3), (.raw u4), (.raw u5)], .seg X1]) = some ((.slice a2 n2 c2), denH [.seg H, .blk .fix [(.raw u0), (.raw u1), (.raw u2), (.raw u3), (.raw u4), (.raw u5)], .seg X1, .seg X2]))
 (.claim (opA (Plain.env tbl (gE 0)) (.call 60 [(.const (.int .i64 (wn q 1 600))), (.const (.slice a1 n1 c1))]) [] (denH [.seg H, .blk .fix [(.raw u0), (.raw u1), (.raw u2), (.raw u3), (.raw u4), (.raw u5)], .seg X1, .seg X2]) = some ((.slice a3 n3 c3), denH [.seg H, .blk .fix [(.raw u0), (.raw u1), (.raw u2), (.raw u3), (.raw u4), (.raw u5)], .seg X1, .seg X2, .seg X3]))
 (.req (!((n2 : Int) != (IntKind.wrap .i64 (8 * (IntKind.wrap .i64 (2 + (IntKind.wrap .i64 (7 * (n1 : Int))))))))) (.req (!((n3 : Int) != (n2 : Int))) (.req (!(decide ((n2 : Int) < 16))) (.claim (opA (Plain.env tbl (gE 0)) (.call 60 [(.const (.int .i64 (wn p 1 600))), (.const (.slice none 0 0))]) [] (denH [.seg H, .blk .fix [(.raw u0), (.raw u1), (.raw u2), (.raw u3), (.raw u4), (.raw u5)], .seg X1, .seg X2, .seg X3]) = some ((.slice a4 n4 c4), denH [.seg H, .blk .fix [(.raw u0), (.raw u1), (.raw u2), (.raw u3), (.raw u4), (.raw u5)], .seg X1, .seg X2, .seg X3, .seg X4]))
 (.claim (opA (Plain.env tbl (gE 0)) (.call 61 [(.const (.slice a4 n4 c4))]) [] (denH [.seg H, .blk .fix [(.raw u0), (.raw u1), (.raw u2), (.raw u3), (.raw u4), (.raw u5)], .seg X1, .seg X2, .seg X3, .seg X4]) = some ((.tuple ⟨[(.int .i64 m), (.slice a5 0 c5), (.int .i64 0)]⟩), denH [.seg H, .blk .fix [(.raw u0), (.raw u1), (.raw u2), (.raw u3), (.raw u4), (.raw u5)], .seg X1, .seg X2, .seg X3, .seg X4, .seg X5]))
 (.req true (.claim (opA (Plain.env tbl (gE 0)) (.slice 1 (.const (.slice a2 n2 c2)) (some (.const (.int .i64 8))) none none) [] (denH [.seg H, .blk .fix [(.raw u0), (.raw u1), (.raw u2), (.raw u3), (.raw u4), (.raw u5)], .seg X1, .seg X2, .seg X3, .seg X4, .seg X5]) = some ((.slice a6 n6 c6), denH [.seg H, .blk .fix [(.raw u0), (.raw u1), (.raw u2), (.raw u3), (.raw u4), (.raw u5)], .seg X1, .seg X2, .seg X3, .seg X4, .seg X5]))
 (.claim (opA (Plain.env tbl (gE 0)) (.slice 1 (.const (.slice a3 n3 c3)) (some (.const (.int .i64 8))) none none) [] (denH [.seg H, .blk .fix [(.raw u0), (.raw u1), (.raw u2), (.raw u3), (.raw u4), (.raw u5)], .seg X1, .seg X2, .seg X3, .seg X4, .seg X5]) = some ((.slice a7 n7 c7), denH [.seg H, .blk .fix [(.raw u0), (.raw u1), (.raw u2), (.raw u3), (.raw u4), (.raw u5)], .seg X1, .seg X2, .seg X3, .seg X4, .seg X5]))
 (.claim (opA (Plain.env tbl (gE 0)) (.call 27 [(.const (.slice a6 n6 c6)), (.const (.slice a7 n7 c7))]) [] (denH [.seg H, .blk .fix [(.raw u0), (.raw u1), (.raw u2), (.raw u3), (.raw u4), (.raw u5)], .seg X1, .seg X2, .seg X3, .seg X4, .seg X5]) = some ((.bool true), denH [.seg H, .blk .fix [(.raw u0), (.raw u1), (.raw u2), (.raw u3), (.raw u4), (.raw u5)], .seg X1, .seg X2, .seg X3, .seg X4, .seg X5]))
 (.claim (opA (Plain.env tbl (gE 0)) (.slice 1 (.const (.slice a2 n2 c2)) none (some (.const (.int .i64 8))) none) [] (denH [.seg H, .blk .fix [(.raw u0), (.raw u1), (.raw u2), (.raw u3), (.raw u4), (.raw u5)], .seg X1, .seg X2, .seg X3, .seg X4, .seg X5]) = some ((.slice a8 n8 c8), denH [.seg H, .blk .fix [(.raw u0), (.raw u1), (.raw u2), (.raw u3), (.raw u4), (.raw u5)], .seg X1, .seg X2, .seg X3, .seg X4, .seg X5]))
 (.claim (opA (Plain.env tbl (gE 0)) (.slice 1 (.const (.slice a3 n3 c3)) none (some (.const (.int .i64 8))) none) [] (denH [.seg H, .blk .fix [(.raw u0), (.raw u1), (.raw u2), (.raw u3), (.raw u4), (.raw u5)], .seg X1, .seg X2, .seg X3, .seg X4, .seg X5]) = some ((.slice a9 n9 c9), denH [.seg H, .blk .fix [(.raw u0), (.raw u1), (.raw u2), (.raw u3), (.raw u4), (.raw u5)], .seg X1, .seg X2, .seg X3, .seg X4, .seg X5]))
 (.claim (opA (Plain.env tbl (gE 0)) (.call 27 [(.const (.slice a8 n8 c8)), (.const (.slice a9 n9 c9))]) [] (denH [.seg H, .blk .fix [(.raw u0), (.raw u1), (.raw u2), (.raw u3), (.raw u4), (.raw u5)], .seg X1, .seg X2, .seg X3, .seg X4, .seg X5]) = some ((.bool r), denH [.seg H, .blk .fix [(.raw u0), (.raw u1), (.raw u2), (.raw u3), (.raw u4), (.raw u5)], .seg X1, .seg X2, .seg X3, .seg X4, .seg X5]))
 (.claim (opA (Plain.env tbl (gE 0)) (.bin .eql (.const (.int .i64 (wn p 1 600))) (.const (.int .i64 (wn q 1 600)))) [] [] = some ((.bool r), []))
 (.claim (opA (Plain.env tbl (gE 0)) (.eqv false .bool (.const (.bool r)) (.const (.bool r))) [] [] = some ((.bool true), []))
 (.claim (opA (Plain.env tbl (gE 0)) (.bin .eql (.const (.int .i64 m)) (.const (.int .i64 (wn p 1 600)))) [] [] = some ((.bool true), []))
 (.req (bif ((0 : Int) == 0) then true else true) (.req (bif ((0 : Int) == 0) then true else false) (.claim (opA (Plain.env tbl (gE 0)) (.call 60 [(.const (.int .i64 601)), (.const (.slice a1 n1 c1))]) [] (denH [.seg H, .blk .fix [(.raw u0), (.raw u1), (.raw u2), (.raw u3), (.raw u4), (.raw u5)], .seg X1, .seg X2, .seg X3, .seg X4, .seg X5]) = some ((.slice a10 0 c10), denH [.seg H, .blk .fix [(.raw u0), (.raw u1), (.raw u2), (.raw u3), (.raw u4), (.raw u5)], .seg X1, .seg X2, .seg X3, .seg X4, .seg X5, .seg X6]))
 (.req (bif ((0 : Int) == 0) then true else true) (.ret .ret [(sB (bif ((0 : Int) == 0) then true else false))] [.seg H, .blk .fix [(.raw u0), (.raw u1), (.raw u2), (.raw u3), (.raw u4), (.raw u5)], .seg X1, .seg X2, .seg X3, .seg X4, .seg X5, .seg X6]))))))))))))))))))))))))) := by kernel_rfl
theorem call {f : Nat} {args : List Value} {h : Heap} {r : Value × Heap} (ht : tbl.find f args = none) (e : gK f args h = some r) : opA (Plain.env tbl (gE 0)) (.call f (args.map .const)) [] h = some r := opA_call ht e
theorem eqvb (Γ : Env) (r : Bool) (h : Heap) : opA Γ (.eqv false .bool (.const (.bool r)) (.const (.bool r))) [] h = some (.bool true, h) := by cases r <;> rfl
theorem eql_ok (Γ : Env) (x y : Int) (q : Bool) (h : q = decide (x = y)) : opA Γ (.bin .eql (.const (.int .i64 x)) (.const (.int .i64 y))) [] [] = some (.bool q, []) := by
  simp only [opA, pureA, ev, binA, intBin, if_true]
  subst h
  congr 3
theorem drop8 (z : Int) (l : List Int) : (byt (z :: l)).drop 8 = byt l := by
  show (wd z ++ byt l).drop 8 = byt l
  rw [show (8 : Nat) = (wd z).length from rfl, List.drop_left]
theorem take8 (z : Int) (l : List Int) : (byt (z :: l)).take 8 = wd z := by
  show (wd z ++ byt l).take 8 = wd z
  rw [show (8 : Nat) = (wd z).length from rfl, List.take_left]
theorem wd_inj {x y : Int} (hx : In64 x) (hy : In64 y) (e : wd x = wd y) : x = y := by
  obtain ⟨b0, b1, b2, b3, b4, b5, b6, b7, h⟩ := WI.wd_get x
  rw [← WI.val8_wd hx h, ← WI.val8_wd hy (e ▸ h)]
theorem law {H : Heap} {k : TN} {vs : List Value} {p q : Int} (hk : TNOk H k vs) : Sim Try.prog 18 [.agg ⟨vs⟩, .int .i64 p, .int .i64 q] H fun v _ => v = .bool true := by
  obtain ⟨u0, u1, u2, u3, u4, u5, rfl, h0, h1, h2, h3, h4, h5⟩ := hk.ok
  have hk1 : TNOk (denH [.seg H, .blk .fix [.raw u0, .raw u1, .raw u2, .raw u3, .raw u4, .raw u5]]) k [u0, u1, u2, u3, u4, u5] := ⟨u0, u1, u2, u3, u4, u5, rfl, PK.up1 h0 _, PK.up1 h1 _, PK.up1 h2 _, PK.up1 h3 _, PK.up1 h4 _, PK.up1 h5 _⟩
  obtain ⟨a1, n1, c1, X1, g1, l1⟩ := TL.run51 (I := [.seg H, .blk .fix [.raw u0, .raw u1, .raw u2, .raw u3, .raw u4, .raw u5]]) rfl hk1
  obtain ⟨_, _, en⟩ := l1.slcM
  simp only [Value.slice.injEq] at en
  obtain ⟨_, rfl, _⟩ := en
  have r1 : RowsW 7 (denH [.seg H, .blk .fix [.raw u0, .raw u1, .raw u2, .raw u3, .raw u4, .raw u5], .seg X1]) (.slice a1 (linesF k).length c1) ((linesF k).map e7) := l1.rowsI (I := [.seg H, .blk .fix [.raw u0, .raw u1, .raw u2, .raw u3, .raw u4, .raw u5]]) (K := [.seg X1]) rfl (by decide) (by simp [denL, It.den])
  have hl := TL.linesF_len k
  have w1 := wn600 p
  have w2 := wn600 q
  have ea : encF (wn p 1 600) (linesF k) = byt (tapeI (wn p 1 600) (linesF k)) := by unfold encF; rw [tapeOk_k k w1.1 w1.2, if_pos rfl]
  have eb : encF (wn q 1 600) (linesF k) = byt (tapeI (wn q 1 600) (linesF k)) := by unfold encF; rw [tapeOk_k k w2.1 w2.2, if_pos rfl]
  have ec : encF (wn p 1 600) [] = byt (tapeI (wn p 1 600) []) := by unfold encF; rw [show tapeOk (wn p 1 600) [] = true by simp [tapeOk, w1]; rfl, if_pos rfl]
  have ed : encF 601 (linesF k) = [] := by unfold encF; rw [show tapeOk 601 (linesF k) = false by simp [tapeOk]]; rfl
  have na : (byt (tapeI (wn p 1 600) (linesF k))).length = 8 * (2 + 7 * (linesF k).length) := by rw [byt_len, tapeI, tapeP_len]
  have nb : (byt (tapeI (wn q 1 600) (linesF k))).length = 8 * (2 + 7 * (linesF k).length) := by rw [byt_len, tapeI, tapeP_len]
  obtain ⟨a2, c2, X2, g2, r2⟩ := TE.E60.use (p := wn p 1 600) rfl r1 (by omega)
  obtain ⟨a3, c3, X3, g3, r3⟩ := TE.E60.use (I := [.seg H, .blk .fix [.raw u0, .raw u1, .raw u2, .raw u3, .raw u4, .raw u5], .seg X1, .seg X2]) (p := wn q 1 600) rfl (r1.up rfl [.seg X2]) (by omega)
  obtain ⟨a4, c4, X4, g4, r4⟩ := TE.E60.use (I := [.seg H, .blk .fix [.raw u0, .raw u1, .raw u2, .raw u3, .raw u4, .raw u5], .seg X1, .seg X2, .seg X3]) (p := wn p 1 600) (s := .slice none 0 0) (l := []) rfl (.inl ⟨rfl, rfl⟩) (by simp)
  rw [ea] at g2 r2
  rw [eb] at g3 r3
  rw [ec] at g4 r4
  obtain ⟨a5, c5, X5, g5, _⟩ := DC.use61 (I := [.seg H, .blk .fix [.raw u0, .raw u1, .raw u2, .raw u3, .raw u4, .raw u5], .seg X1, .seg X2, .seg X3, .seg X4]) rfl r4 (by rw [byt_len]; simp [tapeI, tapeP])
  rw [TD.decF_byt ⟨by omega, by omega⟩ (by simp) (by simp), show tapeOk (wn p 1 600) [] = true by simp [tapeOk, w1]; rfl, if_pos rfl] at g5
  obtain ⟨a10, c10, X6, g10, _⟩ := TE.E60.use (I := [.seg H, .blk .fix [.raw u0, .raw u1, .raw u2, .raw u3, .raw u4, .raw u5], .seg X1, .seg X2, .seg X3, .seg X4, .seg X5]) (p := 601) rfl (r1.up rfl [.seg X2, .seg X3, .seg X4, .seg X5]) (by omega)
  rw [ed] at g10
  have r2u := r2.up rfl [.seg X3, .seg X4, .seg X5]
  have r3u := r3.up rfl [.seg X4, .seg X5]
  obtain ⟨v6, t6, r6⟩ := r2u.cutM (lo := 8) (hi := (byt (tapeI (wn p 1 600) (linesF k))).length) (by omega) (Nat.le_refl _) (some (.const (.int .i64 8))) none (.inr rfl) (.inl ⟨rfl, rfl⟩)
  obtain ⟨v7, t7, r7⟩ := r3u.cutM (lo := 8) (hi := (byt (tapeI (wn q 1 600) (linesF k))).length) (by omega) (Nat.le_refl _) (some (.const (.int .i64 8))) none (.inr rfl) (.inl ⟨rfl, rfl⟩)
  obtain ⟨v8, t8, r8⟩ := r2u.cutM (lo := 0) (hi := 8) (by omega) (by omega) none (some (.const (.int .i64 8))) (.inl ⟨rfl, rfl⟩) (.inr rfl)
  obtain ⟨v9, t9, r9⟩ := r3u.cutM (lo := 0) (hi := 8) (by omega) (by omega) none (some (.const (.int .i64 8))) (.inl ⟨rfl, rfl⟩) (.inr rfl)
  rw [List.take_length, tapeI, tapeP, drop8] at r6 r7
  rw [List.drop_zero, tapeI, tapeP, take8] at r8 r9
  have eS := callSame br_1 r6 r7 (by rw [byt_len]; have := tapeP_len 0 0 (linesF k); simp [tapeP] at this ⊢; omega)
  rw [same_t rfl] at eS
  have eT := callSame br_1 r8 r9 (by show (8 : Nat) ≤ _; decide)
  have er : same (wd (wn p 1 600)) (wd (wn q 1 600)) = decide (wn p 1 600 = wn q 1 600) := by
    by_cases e : wn p 1 600 = wn q 1 600
    · rw [e, same_t rfl]; simp
    · rw [same_f fun h => e (wd_inj ⟨by omega, by omega⟩ ⟨by omega, by omega⟩ h)]; simp [e]
  rw [er] at eT
  obtain ⟨a6, c6, rfl⟩ := r6.slcM
  obtain ⟨a7, c7, rfl⟩ := r7.slcM
  obtain ⟨a8, c8, rfl⟩ := r8.slcM
  obtain ⟨a9, c9, rfl⟩ := r9.slcM
  have ww : IntKind.wrap .i64 (8 * (IntKind.wrap .i64 (2 + (IntKind.wrap .i64 (7 * ((linesF k).length : Int)))))) = 8 * (2 + 7 * ((linesF k).length : Int)) := by
    rw [wrap64 (x := 7 * ((linesF k).length : Int)) (by omega) (by omega), wrap64 (x := 2 + 7 * ((linesF k).length : Int)) (by omega) (by omega), wrap64 (by omega) (by omega)]
  have tr := tree18 u0 u1 u2 u3 u4 u5 a1 a2 a3 a4 a5 a6 a7 a8 a9 a10 (linesF k).length (byt (tapeI (wn p 1 600) (linesF k))).length (byt (tapeI (wn q 1 600) (linesF k))).length (byt (tapeI (wn p 1 600) [])).length (byt (((linesF k).length : Int) :: (linesF k).flatMap TE.lineI)).length (byt (((linesF k).length : Int) :: (linesF k).flatMap TE.lineI)).length (wd (wn p 1 600)).length (wd (wn q 1 600)).length c1 c2 c3 c4 c5 c6 c7 c8 c9 c10 p q (wn p 1 600) (decide (wn p 1 600 = wn q 1 600)) H X1 X2 X3 X4 X5 X6
  have := fnS_tree (Q := fun v _ => v = .bool true) mixed (gE_ok 0) (gE_q 0) (cE_ok 0) st18 tr ⟨rfl, rfl⟩ ⟨call (args := [_]) rfl g1, ⟨rfl, ⟨rfl, ⟨call (args := [_, _]) rfl g2, ⟨call (args := [_, _]) rfl g3, ⟨by rw [ww]; simp; omega, ⟨by simp; omega, ⟨by simp; omega, ⟨call (args := [_, _]) rfl g4, ⟨call (args := [_]) rfl g5, ⟨rfl, ⟨t6 _, ⟨t7 _, ⟨call (args := [_, _]) rfl eS, ⟨t8 _, ⟨t9 _, ⟨call (args := [_, _]) rfl eT, ⟨eql_ok _ _ _ _ rfl, ⟨eqvb _ _ _, ⟨eql_ok _ _ _ _ (by simp), ⟨rfl, ⟨rfl, ⟨call (args := [_, _]) rfl g10, ⟨rfl, rfl⟩⟩⟩⟩⟩⟩⟩⟩⟩⟩⟩⟩⟩⟩⟩⟩⟩⟩⟩⟩⟩⟩⟩⟩
  simpa [denH, denL, It.den, denF, denV, denA, den0] using this
theorem lawA (H : Heap) (xs : List Value) (h : F2 (fun p a => ArgOk H p.1 p.2 a) [(true, [LT.s 1 [.i .i64], .s 1 [.i .i64], .s 1 [.i .i64], .s 1 [.i .i64], .s 1 [.i .i64], .s 1 [.i .i64]]), (false, [LT.f (.i .i64)]), (false, [LT.f (.i .i64)])] xs) : Sim Try.prog 18 xs H fun v _ => v = .bool true := by
  cases h with
  | cons h0 h => cases h with
    | cons h1 h => cases h with
      | cons h2 h => cases h with
        | nil =>
          obtain ⟨vs, k, rfl, hk⟩ := TD.tn_of h0
          obtain ⟨p, rfl, _⟩ := lt_int (arg_one h1)
          obtain ⟨q, rfl, _⟩ := lt_int (arg_one h2)
          exact law hk
end T18
end Go.Proofs.Ytgdojnamjkhknaa
