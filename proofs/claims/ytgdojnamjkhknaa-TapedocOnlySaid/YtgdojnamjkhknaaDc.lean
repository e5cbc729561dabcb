/-
  tapedoc: a tape out of its bytes.
-/
import Derived.Test.YtgdojnamjkhknaaTe
import Derived.Test.YtgdojnamjkhknaaRd
import Derived.Test.YtgdojnamjkhknaaIp
namespace Go.Proofs.Ytgdojnamjkhknaa
open Go.Am
set_option linter.all false
set_option maxRecDepth 100000
namespace DC
open WI (preI resI intsF okI useI)
open RD (nx mny doneB rdB)
open TE (tapeOk)
/-- A line, read. -/
def lineR (l : List Int) (b : Bool) : R7 × List Int × Bool :=
  let q0 := nx l b
  let q1 := nx q0.2.1 q0.2.2
  let q2 := nx q1.2.1 q1.2.2
  let q3 := nx q2.2.1 q2.2.2
  let q4 := nx q3.2.1 q3.2.2
  let q5 := nx q4.2.1 q4.2.2
  let q6 := mny 1 q5.2.1 q5.2.2
  (⟨q0.1, q1.1, q2.1, q3.1, q4.1, q5.1, q6.1 == 1⟩, q6.2)
def lnsR : Nat → List Int → Bool → List R7 × List Int × Bool
  | 0, l, b => ([], l, b)
  | n + 1, l, b => ((lineR l b).1 :: (lnsR n (lineR l b).2.1 (lineR l b).2.2).1, (lnsR n (lineR l b).2.1 (lineR l b).2.2).2)
theorem lnsR_len : ∀ (n : Nat) (l : List Int) (b : Bool), (lnsR n l b).1.length = n
  | 0, _, _ => rfl
  | n + 1, l, b => by simp [lnsR, lnsR_len n]
/-- A tape out of bytes. -/
def decF (bs : List Int) : Int × List R7 × Int := if okI bs then
    let q := nx (intsF bs) false
    let k := mny 64 q.2.1 q.2.2
    let r := lnsR k.1.toNat k.2.1 k.2.2
    if doneB r.2.1 r.2.2 then if tapeOk q.1 r.1 then (q.1, r.1, 0) else (0, [], 3) else (0, [], 1)
  else (0, [], 1)
theorem mny_b (m : Int) (hm : 0 ≤ m) (l : List Int) (b : Bool) : 0 ≤ (mny m l b).1 ∧ (mny m l b).1 ≤ m := by
  unfold mny
  split
  · exact ⟨Int.le_refl _, hm⟩
  · omega
noncomputable def gD : Env := fun f => match f with
  | 24 => runE (Plain.env [] (RD.R.gE 1)) RD.R.il24
  | 25 => runE (Plain.env [] (RD.M.gE 0)) RD.M.il25
  | 28 => runE (Plain.env [] (WB.gE 0)) RD.N.il28
  | 29 => runE (Plain.env [] (WB.gE 0)) RD.N.il29
  | 32 => smry preI resI
  | 90 => smry TE.R90.pre TE.R90.res
  | _ => fun _ _ => none
theorem gD_ok : EnvOk Try.prog gD := fun f => by
  unfold gD
  split
  · exact RD.R.sum24
  · exact RD.M.sum25
  · exact RD.N.sum28
  · exact RD.N.sum29
  · exact WI.summI
  · exact TE.R90.summ
  · exact fun args h v h' e => by cases e
theorem gD_q : QuietEnv qt gD := fun f args h v h' hf e => by cases hf
noncomputable abbrev gE (k : Nat) : Env := inE [] [] k gD
noncomputable abbrev cE (k : Nat) : CallS := callS [] [] gD 100 k
theorem gE_q (k : Nat) : QuietEnv qt (Plain.env [] (gE k)) := Plain.quiet (inE_quiet gD_q (fun f F h => by cases h) k)
theorem gE_ok (k : Nat) : EnvOk Try.prog (Plain.env [] (gE k)) := Plain.ok .nil (inE_ok (qt := qt) mixed .nil .nil (fun f F h => by cases h) gD_ok gD_q k)
theorem cE_ok (k : Nat) : CallOk (Plain.env [] (gE k)) (cE k) := callS_ok k
theorem call {f : Nat} {args : List Value} {h : Heap} {r : Value × Heap} (e : gD f args h = some r) : opA (Plain.env [] (gE 0)) (.call f (args.map .const)) [] h = some r := opA_call rfl e
/-- cascade/tapedoc.Decode -/
def il61 : FnIL := ⟨65, [.tmp 2, .tmp 3, .tmp 4],
 .seq (.reg [
    ⟨(some 2), none, .mov (.const (.int .i64 0))⟩,
    ⟨(some 3), none, .mov (.const (.slice none 0 0))⟩,
    ⟨(some 4), none, .mov (.const (.int .i64 0))⟩])
 (.seq (.reg [
    ⟨(some 14), none, .mov (.tmp 0)⟩,
    ⟨(some 15), none, .call 32 [(.tmp 14)]⟩,
    ⟨(some 13), none, .mov (.tmp 15)⟩,
    ⟨(some 16), none, .ext 0 (.tmp 13)⟩,
    ⟨(some 17), none, .ext 1 (.tmp 13)⟩,
    ⟨(some 5), none, .mov (.tmp 16)⟩,
    ⟨(some 6), none, .mov (.tmp 17)⟩])
 (.seq (.seq (.reg [
     ⟨(some 18), none, .mov (.tmp 6)⟩,
     ⟨(some 19), none, .un .not (.tmp 18)⟩])
  (.ite (.tmp 19)
    (.seq (.reg [
       ⟨(some 2), none, .mov (.const (.int .i64 0))⟩,
       ⟨(some 3), none, .mov (.const (.slice none 0 0))⟩,
       ⟨(some 4), none, .mov (.const (.int .i64 1))⟩])
    (.ret))
    (.skip)))
 (.seq (.reg [
    ⟨(some 20), none, .mov (.tmp 5)⟩,
    ⟨(some 21), none, .call 24 [(.tmp 20)]⟩,
    ⟨(some 7), none, .mov (.tmp 21)⟩])
 (.seq (.reg [
    ⟨(some 22), none, .mov (.tmp 7)⟩,
    ⟨(some 23), none, .call 29 [(.tmp 22)]⟩,
    ⟨(some 8), none, .mov (.tmp 23)⟩])
 (.seq (.reg [
    ⟨(some 9), none, .mov (.const (.slice none 0 0))⟩])
 (.seq (.seq (.reg [
     ⟨(some 24), none, .mov (.tmp 7)⟩,
     ⟨(some 25), none, .call 25 [(.tmp 24), (.const (.int .i64 64))]⟩,
     ⟨(some 26), none, .mov (.const (.int .i64 0))⟩])
  (.block 0
    (.loop
      (.seq (.reg [
         ⟨(some 27), none, .bin .lss (.tmp 26) (.tmp 25)⟩])
      (.seq (.ite (.tmp 27)
         (.skip)
         (.exit 0))
      (.seq (.block 1
         (.seq (.reg [
            ⟨(some 10), none, .alloc [(.int .i64 0), (.int .i64 0), (.int .i64 0), (.int .i64 0), (.int .i64 0), (.int .i64 0), (.bool false)]⟩])
         (.seq (.seq (.reg [
             ⟨(some 28), none, .fadr 0 (.tmp 10)⟩,
             ⟨(some 29), none, .fadr 1 (.tmp 10)⟩,
             ⟨(some 30), none, .fadr 2 (.tmp 10)⟩,
             ⟨(some 31), none, .fadr 3 (.tmp 10)⟩,
             ⟨(some 32), none, .fadr 4 (.tmp 10)⟩,
             ⟨(some 33), none, .fadr 5 (.tmp 10)⟩,
             ⟨(some 34), none, .mkrow [(.pointer none), (.pointer none), (.pointer none), (.pointer none), (.pointer none), (.pointer none)] 6 [(0, 1, (.tmp 28)), (1, 1, (.tmp 29)), (2, 1, (.tmp 30)), (3, 1, (.tmp 31)), (4, 1, (.tmp 32)), (5, 1, (.tmp 33))]⟩,
             ⟨(some 35), none, .len (.tmp 34)⟩,
             ⟨(some 36), none, .mov (.const (.int .i64 0))⟩])
          (.block 2
            (.loop
              (.seq (.reg [
                 ⟨(some 37), none, .bin .lss (.tmp 36) (.tmp 35)⟩])
              (.seq (.ite (.tmp 37)
                 (.skip)
                 (.exit 2))
              (.seq (.block 3
                 (.seq (.reg [
                    ⟨(some 38), none, .iadr 1 none (.tmp 34) (.tmp 36)⟩,
                    ⟨(some 39), none, .load (.tmp 38) none⟩,
                    ⟨(some 12), none, .mov (.tmp 39)⟩])
                 (.reg [
                   ⟨(some 40), none, .mov (.tmp 12)⟩,
                   ⟨(some 41), none, .mov (.tmp 7)⟩,
                   ⟨(some 42), none, .call 29 [(.tmp 41)]⟩,
                   ⟨(some 43), none, .nilck (.tmp 40)⟩,
                   ⟨none, none, .store (.tmp 43) (.tmp 42) 1⟩])))
              (.reg [
                ⟨(some 44), none, .bin .add (.tmp 36) (.const (.int .i64 1))⟩,
                ⟨(some 36), none, .mov (.tmp 44)⟩])))))))
         (.seq (.reg [
            ⟨(some 45), none, .mov (.tmp 7)⟩,
            ⟨(some 46), none, .call 25 [(.tmp 45), (.const (.int .i64 1))]⟩,
            ⟨(some 47), none, .bin .eql (.tmp 46) (.const (.int .i64 1))⟩,
            ⟨(some 48), none, .fadr 6 (.tmp 10)⟩,
            ⟨none, none, .store (.tmp 48) (.tmp 47) 1⟩])
         (.reg [
           ⟨(some 49), none, .mov (.tmp 9)⟩,
           ⟨(some 50), none, .load (.tmp 10) (some 7)⟩,
           ⟨(some 51), none, .mkrow [(.int .i64 0), (.int .i64 0), (.int .i64 0), (.int .i64 0), (.int .i64 0), (.int .i64 0), (.bool false)] 1 [(0, 7, (.tmp 50))]⟩,
           ⟨(some 52), none, .append 7 56 (.tmp 49) (.tmp 51)⟩,
           ⟨(some 9), none, .mov (.tmp 52)⟩])))))
      (.reg [
        ⟨(some 53), none, .bin .add (.tmp 26) (.const (.int .i64 1))⟩,
        ⟨(some 26), none, .mov (.tmp 53)⟩])))))))
 (.seq (.block 4
    (.seq (.reg [
       ⟨(some 55), none, .mov (.tmp 7)⟩,
       ⟨(some 56), none, .call 28 [(.tmp 55)]⟩,
       ⟨(some 57), none, .un .not (.tmp 56)⟩,
       ⟨(some 54), none, .mov (.tmp 57)⟩])
    (.ite (.tmp 54)
      (.seq (.reg [
         ⟨(some 2), none, .mov (.const (.int .i64 0))⟩,
         ⟨(some 3), none, .mov (.const (.slice none 0 0))⟩,
         ⟨(some 4), none, .mov (.const (.int .i64 1))⟩])
      (.ret))
      (.seq (.reg [
         ⟨(some 59), none, .mov (.tmp 8)⟩,
         ⟨(some 60), none, .mov (.tmp 9)⟩,
         ⟨(some 61), none, .call 90 [(.tmp 59), (.tmp 60)]⟩,
         ⟨(some 62), none, .un .not (.tmp 61)⟩,
         ⟨(some 58), none, .mov (.tmp 62)⟩])
      (.ite (.tmp 58)
        (.seq (.reg [
           ⟨(some 2), none, .mov (.const (.int .i64 0))⟩,
           ⟨(some 3), none, .mov (.const (.slice none 0 0))⟩,
           ⟨(some 4), none, .mov (.const (.int .i64 3))⟩])
        (.ret))
        (.skip))))))
 (.seq (.reg [
    ⟨(some 63), none, .mov (.tmp 8)⟩,
    ⟨(some 64), none, .mov (.tmp 9)⟩,
    ⟨(some 2), none, .mov (.tmp 63)⟩,
    ⟨(some 3), none, .mov (.tmp 64)⟩,
    ⟨(some 4), none, .mov (.const (.int .i64 0))⟩])
 (.ret)))))))))⟩
theorem st61 : stF Try.prog qt 61 = some il61 := by kernel_rfl
def body61_0 : IL := .seq (.reg [
    ⟨(some 27), none, .bin .lss (.tmp 26) (.tmp 25)⟩])
 (.seq (.ite (.tmp 27)
    (.skip)
    (.exit 0))
 (.seq (.block 1
    (.seq (.reg [
       ⟨(some 10), none, .alloc [(.int .i64 0), (.int .i64 0), (.int .i64 0), (.int .i64 0), (.int .i64 0), (.int .i64 0), (.bool false)]⟩])
    (.seq (.seq (.reg [
        ⟨(some 28), none, .fadr 0 (.tmp 10)⟩,
        ⟨(some 29), none, .fadr 1 (.tmp 10)⟩,
        ⟨(some 30), none, .fadr 2 (.tmp 10)⟩,
        ⟨(some 31), none, .fadr 3 (.tmp 10)⟩,
        ⟨(some 32), none, .fadr 4 (.tmp 10)⟩,
        ⟨(some 33), none, .fadr 5 (.tmp 10)⟩,
        ⟨(some 34), none, .mkrow [(.pointer none), (.pointer none), (.pointer none), (.pointer none), (.pointer none), (.pointer none)] 6 [(0, 1, (.tmp 28)), (1, 1, (.tmp 29)), (2, 1, (.tmp 30)), (3, 1, (.tmp 31)), (4, 1, (.tmp 32)), (5, 1, (.tmp 33))]⟩,
        ⟨(some 35), none, .len (.tmp 34)⟩,
        ⟨(some 36), none, .mov (.const (.int .i64 0))⟩])
     (.block 2
       (.loop
         (.seq (.reg [
            ⟨(some 37), none, .bin .lss (.tmp 36) (.tmp 35)⟩])
         (.seq (.ite (.tmp 37)
            (.skip)
            (.exit 2))
         (.seq (.block 3
            (.seq (.reg [
               ⟨(some 38), none, .iadr 1 none (.tmp 34) (.tmp 36)⟩,
               ⟨(some 39), none, .load (.tmp 38) none⟩,
               ⟨(some 12), none, .mov (.tmp 39)⟩])
            (.reg [
              ⟨(some 40), none, .mov (.tmp 12)⟩,
              ⟨(some 41), none, .mov (.tmp 7)⟩,
              ⟨(some 42), none, .call 29 [(.tmp 41)]⟩,
              ⟨(some 43), none, .nilck (.tmp 40)⟩,
              ⟨none, none, .store (.tmp 43) (.tmp 42) 1⟩])))
         (.reg [
           ⟨(some 44), none, .bin .add (.tmp 36) (.const (.int .i64 1))⟩,
           ⟨(some 36), none, .mov (.tmp 44)⟩])))))))
    (.seq (.reg [
       ⟨(some 45), none, .mov (.tmp 7)⟩,
       ⟨(some 46), none, .call 25 [(.tmp 45), (.const (.int .i64 1))]⟩,
       ⟨(some 47), none, .bin .eql (.tmp 46) (.const (.int .i64 1))⟩,
       ⟨(some 48), none, .fadr 6 (.tmp 10)⟩,
       ⟨none, none, .store (.tmp 48) (.tmp 47) 1⟩])
    (.reg [
      ⟨(some 49), none, .mov (.tmp 9)⟩,
      ⟨(some 50), none, .load (.tmp 10) (some 7)⟩,
      ⟨(some 51), none, .mkrow [(.int .i64 0), (.int .i64 0), (.int .i64 0), (.int .i64 0), (.int .i64 0), (.int .i64 0), (.bool false)] 1 [(0, 7, (.tmp 50))]⟩,
      ⟨(some 52), none, .append 7 56 (.tmp 49) (.tmp 51)⟩,
      ⟨(some 9), none, .mov (.tmp 52)⟩])))))
 (.reg [
   ⟨(some 53), none, .bin .add (.tmp 26) (.const (.int .i64 1))⟩,
   ⟨(some 26), none, .mov (.tmp 53)⟩])))
def hn61t (al a2 : Option Addr) (nl cl n2 c2 : Nat) (p n i y0 y1 y2 y3 y4 y5 y6 : Int) (v0 v1 v2 v3 v4 v5 v6 v7 : Value) (b0 b1 b2 b3 b4 b5 b6 b7 : Bool) (H X1 X2 J J2 X : Heap) : Hs := (.sym (.con (.use 26000042 (sI y0) ⟨[(3, .blk .fix [(.raw v1), (sB b1)])], []⟩ (.con (.use 26000042 (sI y1) ⟨[(3, .blk .fix [(.raw v2), (sB b2)])], []⟩ (.con (.use 26000042 (sI y2) ⟨[(3, .blk .fix [(.raw v3), (sB b3)])], []⟩ (.con (.use 26000042 (sI y3) ⟨[(3, .blk .fix [(.raw v4), (sB b4)])], []⟩ (.con (.use 26000042 (sI y4) ⟨[(3, .blk .fix [(.raw v5), (sB b5)])], []⟩ (.con (.use 26000042 (sI y5) ⟨[(3, .blk .fix [(.raw v6), (sB b6)])], []⟩ (.con (.use 26000046 (sI y6) ⟨[(3, .blk .fix [(.raw v7), (sB b7)])], []⟩ (.use 30000052 (.raw (.slice a2 n2 c2)) ⟨[(4, .seg J2)], [.seg X]⟩ .nil))))))))))))))) .nil)
theorem tree61t (al a2 : Option Addr) (nl cl n2 c2 : Nat) (p n i y0 y1 y2 y3 y4 y5 y6 : Int) (v0 v1 v2 v3 v4 v5 v6 v7 : Value) (b0 b1 b2 b3 b4 b5 b6 b7 : Bool) (H X1 X2 J J2 X : Heap) : pieceS [] (gE 0) (cE 0) 400 (fun i => exL i body61_0 || inL [2, 3, 4, 7, 8, 9] i) body61_0 (hn61t al a2 nl cl n2 c2 p n i y0 y1 y2 y3 y4 y5 y6 v0 v1 v2 v3 v4 v5 v6 v7 b0 b1 b2 b3 b4 b5 b6 b7 H X1 X2 J J2 X) (frS 65 [(2, (sI 0)), (3, (.raw (.slice none 0 0))), (4, (sI 0)), (7, (.ptr 3 0)), (8, (sI p)), (9, (.raw (.slice al nl cl))), (25, (sI n)), (26, (sI i))]) [.seg H, .seg X1, .seg X2, .blk .fix [(.raw v0), (sB b0)], .seg J] =
(.br (decide (i < n))
 (.claim (opA (Plain.env [] (gE 0)) (.call 29 [(.const (denV (ofs [.seg H, .seg X1, .seg X2, .blk .fix [(.raw v0), (sB b0)], .seg J, .blk .fix [(sI 0), (sI 0), (sI 0), (sI 0), (sI 0), (sI 0), (sB false)], .blk .fix [(.ptr 5 0), (.ptr 5 1), (.ptr 5 2), (.ptr 5 3), (.ptr 5 4), (.ptr 5 5)]]) (.ptr 3 0)))]) [] (denH [.seg H, .seg X1, .seg X2, .blk .fix [(.raw v0), (sB b0)], .seg J, .blk .fix [(sI 0), (sI 0), (sI 0), (sI 0), (sI 0), (sI 0), (sB false)], .blk .fix [(.ptr 5 0), (.ptr 5 1), (.ptr 5 2), (.ptr 5 3), (.ptr 5 4), (.ptr 5 5)]]) = some ((.int .i64 y0), denH [.seg H, .seg X1, .seg X2, .blk .fix [(.raw v1), (sB b1)], .seg J, .blk .fix [(sI 0), (sI 0), (sI 0), (sI 0), (sI 0), (sI 0), (sB false)], .blk .fix [(.ptr 5 0), (.ptr 5 1), (.ptr 5 2), (.ptr 5 3), (.ptr 5 4), (.ptr 5 5)]]))
 (.claim (opA (Plain.env [] (gE 0)) (.call 29 [(.const (denV (ofs [.seg H, .seg X1, .seg X2, .blk .fix [(.raw v1), (sB b1)], .seg J, .blk .fix [(sI y0), (sI 0), (sI 0), (sI 0), (sI 0), (sI 0), (sB false)], .blk .fix [(.ptr 5 0), (.ptr 5 1), (.ptr 5 2), (.ptr 5 3), (.ptr 5 4), (.ptr 5 5)]]) (.ptr 3 0)))]) [] (denH [.seg H, .seg X1, .seg X2, .blk .fix [(.raw v1), (sB b1)], .seg J, .blk .fix [(sI y0), (sI 0), (sI 0), (sI 0), (sI 0), (sI 0), (sB false)], .blk .fix [(.ptr 5 0), (.ptr 5 1), (.ptr 5 2), (.ptr 5 3), (.ptr 5 4), (.ptr 5 5)]]) = some ((.int .i64 y1), denH [.seg H, .seg X1, .seg X2, .blk .fix [(.raw v2), (sB b2)], .seg J, .blk .fix [(sI y0), (sI 0), (sI 0), (sI 0), (sI 0), (sI 0), (sB false)], .blk .fix [(.ptr 5 0), (.ptr 5 1), (.ptr 5 2), (.ptr 5 3), (.ptr 5 4), (.ptr 5 5)]]))
 (.claim (opA (Plain.env [] (gE 0)) (.call 29 [(.const (denV (ofs [.seg H, .seg X1, .seg X2, .blk .fix [(.raw v2), (sB b2)], .seg J, .blk .fix [(sI y0), (sI y1), (sI 0), (sI 0), (sI 0), (sI 0), (sB false)], .blk .fix [(.ptr 5 0), (.ptr 5 1), (.ptr 5 2), (.ptr 5 3), (.ptr 5 4), (.ptr 5 5)]]) (.ptr 3 0)))]) [] (denH [.seg H, .seg X1, .seg X2, .blk .fix [(.raw v2), (sB b2)], .seg J, .blk .fix [(sI y0), (sI y1), (sI 0), (sI 0), (sI 0), (sI 0), (sB false)], .blk .fix [(.ptr 5 0), (.ptr 5 1), (.ptr 5 2), (.ptr 5 3), (.ptr 5 4), (.ptr 5 5)]]) = some ((.int .i64 y2), denH [.seg H, .seg X1, .seg X2, .blk .fix [(.raw v3), (sB b3)], .seg J, .blk .fix [(sI y0), (sI y1), (sI 0), (sI 0), (sI 0), (sI 0), (sB false)], .blk .fix [(.ptr 5 0), (.ptr 5 1), (.ptr 5 2), (.ptr 5 3), (.ptr 5 4), (.ptr 5 5)]]))
 (.claim (opA (Plain.env [] (gE 0)) (.call 29 [(.const (denV (ofs [.seg H, .seg X1, .seg X2, .blk .fix [(.raw v3), (sB b3)], .seg J, .blk .fix [(sI y0), (sI y1), (sI y2), (sI 0), (sI 0), (sI 0), (sB false)], .blk .fix [(.ptr 5 0), (.ptr 5 1), (.ptr 5 2), (.ptr 5 3), (.ptr 5 4), (.ptr 5 5)]]) (.ptr 3 0)))]) [] (denH [.seg H, .seg X1, .seg X2, .blk .fix [(.raw v3), (sB b3)], .seg J, .blk .fix [(sI y0), (sI y1), (sI y2), (sI 0), (sI 0), (sI 0), (sB false)], .blk .fix [(.ptr 5 0), (.ptr 5 1), (.ptr 5 2), (.ptr 5 3), (.ptr 5 4), (.ptr 5 5)]]) = some ((.int .i64 y3), denH [.seg H, .seg X1, .seg X2, .blk .fix [(.raw v4), (sB b4)], .seg J, .blk .fix [(sI y0), (sI y1), (sI y2), (sI 0), (sI 0), (sI 0), (sB false)], .blk .fix [(.ptr 5 0), (.ptr 5 1), (.ptr 5 2), (.ptr 5 3), (.ptr 5 4), (.ptr 5 5)]]))
 (.claim (opA (Plain.env [] (gE 0)) (.call 29 [(.const (denV (ofs [.seg H, .seg X1, .seg X2, .blk .fix [(.raw v4), (sB b4)], .seg J, .blk .fix [(sI y0), (sI y1), (sI y2), (sI y3), (sI 0), (sI 0), (sB false)], .blk .fix [(.ptr 5 0), (.ptr 5 1), (.ptr 5 2), (.ptr 5 3), (.ptr 5 4), (.ptr 5 5)]]) (.ptr 3 0)))]) [] (denH [.seg H, .seg X1, .seg X2, .blk .fix [(.raw v4), (sB b4)], .seg J, .blk .fix [(sI y0), (sI y1), (sI y2), (sI y3), (sI 0), (sI 0), (sB false)], .blk .fix [(.ptr 5 0), (.ptr 5 1), (.ptr 5 2), (.ptr 5 3), (.ptr 5 4), (.ptr 5 5)]]) = some ((.int .i64 y4), denH [.seg H, .seg X1, .seg X2, .blk .fix [(.raw v5), (sB b5)], .seg J, .blk .fix [(sI y0), (sI y1), (sI y2), (sI y3), (sI 0), (sI 0), (sB false)], .blk .fix [(.ptr 5 0), (.ptr 5 1), (.ptr 5 2), (.ptr 5 3), (.ptr 5 4), (.ptr 5 5)]]))
 (.claim (opA (Plain.env [] (gE 0)) (.call 29 [(.const (denV (ofs [.seg H, .seg X1, .seg X2, .blk .fix [(.raw v5), (sB b5)], .seg J, .blk .fix [(sI y0), (sI y1), (sI y2), (sI y3), (sI y4), (sI 0), (sB false)], .blk .fix [(.ptr 5 0), (.ptr 5 1), (.ptr 5 2), (.ptr 5 3), (.ptr 5 4), (.ptr 5 5)]]) (.ptr 3 0)))]) [] (denH [.seg H, .seg X1, .seg X2, .blk .fix [(.raw v5), (sB b5)], .seg J, .blk .fix [(sI y0), (sI y1), (sI y2), (sI y3), (sI y4), (sI 0), (sB false)], .blk .fix [(.ptr 5 0), (.ptr 5 1), (.ptr 5 2), (.ptr 5 3), (.ptr 5 4), (.ptr 5 5)]]) = some ((.int .i64 y5), denH [.seg H, .seg X1, .seg X2, .blk .fix [(.raw v6), (sB b6)], .seg J, .blk .fix [(sI y0), (sI y1), (sI y2), (sI y3), (sI y4), (sI 0), (sB false)], .blk .fix [(.ptr 5 0), (.ptr 5 1), (.ptr 5 2), (.ptr 5 3), (.ptr 5 4), (.ptr 5 5)]]))
 (.claim (opA (Plain.env [] (gE 0)) (.call 25 [(.const (denV (ofs [.seg H, .seg X1, .seg X2, .blk .fix [(.raw v6), (sB b6)], .seg J, .blk .fix [(sI y0), (sI y1), (sI y2), (sI y3), (sI y4), (sI y5), (sB false)], .blk .fix [(.ptr 5 0), (.ptr 5 1), (.ptr 5 2), (.ptr 5 3), (.ptr 5 4), (.ptr 5 5)]]) (.ptr 3 0))), (.const (.int .i64 1))]) [] (denH [.seg H, .seg X1, .seg X2, .blk .fix [(.raw v6), (sB b6)], .seg J, .blk .fix [(sI y0), (sI y1), (sI y2), (sI y3), (sI y4), (sI y5), (sB false)], .blk .fix [(.ptr 5 0), (.ptr 5 1), (.ptr 5 2), (.ptr 5 3), (.ptr 5 4), (.ptr 5 5)]]) = some ((.int .i64 y6), denH [.seg H, .seg X1, .seg X2, .blk .fix [(.raw v7), (sB b7)], .seg J, .blk .fix [(sI y0), (sI y1), (sI y2), (sI y3), (sI y4), (sI y5), (sB false)], .blk .fix [(.ptr 5 0), (.ptr 5 1), (.ptr 5 2), (.ptr 5 3), (.ptr 5 4), (.ptr 5 5)]]))
 (.claim (List.length J2 = List.length J) (.claim (opA (Plain.env [] (gE 0)) (.append 7 56 (.const (.slice al nl cl)) (.const (denV (ofs [.seg H, .seg X1, .seg X2, .blk .fix [(.raw v7), (sB b7)], .seg J, .blk .fix [(sI y0), (sI y1), (sI y2), (sI y3), (sI y4), (sI y5), (sB (y6 == 1))], .blk .fix [(.ptr 5 0), (.ptr 5 1), (.ptr 5 2), (.ptr 5 3), (.ptr 5 4), (.ptr 5 5)], .blk .fix [(sI y0), (sI y1), (sI y2), (sI y3), (sI y4), (sI y5), (sB (y6 == 1))]]) (.sl 7 0 1 1)))) [] (denH [.seg H, .seg X1, .seg X2, .blk .fix [(.raw v7), (sB b7)], .seg J, .blk .fix [(sI y0), (sI y1), (sI y2), (sI y3), (sI y4), (sI y5), (sB (y6 == 1))], .blk .fix [(.ptr 5 0), (.ptr 5 1), (.ptr 5 2), (.ptr 5 3), (.ptr 5 4), (.ptr 5 5)], .blk .fix [(sI y0), (sI y1), (sI y2), (sI y3), (sI y4), (sI y5), (sB (y6 == 1))]]) = some ((.slice a2 n2 c2), denH [.seg H, .seg X1, .seg X2, .blk .fix [(.raw v7), (sB b7)], .seg J2, .blk .fix [(sI y0), (sI y1), (sI y2), (sI y3), (sI y4), (sI y5), (sB (y6 == 1))], .blk .fix [(.ptr 5 0), (.ptr 5 1), (.ptr 5 2), (.ptr 5 3), (.ptr 5 4), (.ptr 5 5)], .blk .fix [(sI y0), (sI y1), (sI y2), (sI y3), (sI y4), (sI y5), (sB (y6 == 1))], .seg X]))
 (.ret .normal (frS 65 [(2, (sI 0)), (3, (.raw (.slice none 0 0))), (4, (sI 0)), (7, (.ptr 3 0)), (8, (sI p)), (9, (.raw (.slice a2 n2 c2))), (25, (sI n)), (26, (sI (IntKind.wrap .i64 (i + 1))))]) [.seg H, .seg X1, .seg X2, .blk .fix [(.raw v7), (sB b7)], .seg J2, .blk .fix [(sI y0), (sI y1), (sI y2), (sI y3), (sI y4), (sI y5), (sB (y6 == 1))], .blk .fix [(.ptr 5 0), (.ptr 5 1), (.ptr 5 2), (.ptr 5 3), (.ptr 5 4), (.ptr 5 5)], .blk .fix [(sI y0), (sI y1), (sI y2), (sI y3), (sI y4), (sI y5), (sB (y6 == 1))], .seg X]))))))))))
 (.ret (.exit 0) (frS 65 [(2, (sI 0)), (3, (.raw (.slice none 0 0))), (4, (sI 0)), (7, (.ptr 3 0)), (8, (sI p)), (9, (.raw (.slice al nl cl))), (25, (sI n)), (26, (sI i))]) [.seg H, .seg X1, .seg X2, .blk .fix [(.raw v0), (sB b0)], .seg J])) := by kernel_rfl
def hn61a (sa a1 al : Option Addr) (n c n1 c1 nl cl : Nat) (p k : Int) (v0 v1 v2 v3 : Value) (b1 b2 b3 : Bool) (H X1 X2 J : Heap) : Hs := (.use 26000015 (.raw (.tuple ⟨[(.slice a1 n1 c1), (.bool false)]⟩)) ⟨[], [.seg X1]⟩ (.con .nil))
theorem tree61a (sa a1 al : Option Addr) (n c n1 c1 nl cl : Nat) (p k : Int) (v0 v1 v2 v3 : Value) (b1 b2 b3 : Bool) (H X1 X2 J : Heap) : fnS [] (gE 0) (cE 0) 100 il61 (hn61a sa a1 al n c n1 c1 nl cl p k v0 v1 v2 v3 b1 b2 b3 H X1 X2 J) [(.raw (.slice sa n c))] [.seg H] =
(.claim (opA (Plain.env [] (gE 0)) (.call 32 [(.const (.slice sa n c))]) [] (denH [.seg H]) = some ((.tuple ⟨[(.slice a1 n1 c1), (.bool false)]⟩), denH [.seg H, .seg X1]))
 (.ret .ret [(.raw (.tuple ⟨[(.int .i64 0), (.slice none 0 0), (.int .i64 1)]⟩))] [.seg H, .seg X1])) := by kernel_rfl
def hn61b (sa a1 al : Option Addr) (n c n1 c1 nl cl : Nat) (p k : Int) (v0 v1 v2 v3 : Value) (b1 b2 b3 : Bool) (H X1 X2 J : Heap) : Hs := (.use 26000015 (.raw (.tuple ⟨[(.slice a1 n1 c1), (.bool true)]⟩)) ⟨[], [.seg X1]⟩ (.con (.use 26000021 (.ptr 3 0) ⟨[], [.seg X2, .blk .fix [(.raw v0), (sB false)]]⟩ (.use 26000023 (sI p) ⟨[(3, .blk .fix [(.raw v1), (sB b1)])], []⟩ (.use 26000025 (sI k) ⟨[(3, .blk .fix [(.raw v2), (sB b2)])], []⟩ (.lp 0 [2, 3, 4, 7, 8, 9] (frS 65 [(2, (sI 0)), (3, (.raw (.slice none 0 0))), (4, (sI 0)), (7, (.ptr 3 0)), (8, (sI p)), (9, (.raw (.slice al nl cl)))]) ⟨[(3, .blk .fix [(.raw v3), (sB b3)])], [.seg J]⟩ (.use 26000056 (sB false) ⟨[], []⟩ (.con .nil))))))))
theorem tree61b (sa a1 al : Option Addr) (n c n1 c1 nl cl : Nat) (p k : Int) (v0 v1 v2 v3 : Value) (b1 b2 b3 : Bool) (H X1 X2 J : Heap) : fnS [] (gE 0) (cE 0) 100 il61 (hn61b sa a1 al n c n1 c1 nl cl p k v0 v1 v2 v3 b1 b2 b3 H X1 X2 J) [(.raw (.slice sa n c))] [.seg H] =
(.claim (opA (Plain.env [] (gE 0)) (.call 32 [(.const (.slice sa n c))]) [] (denH [.seg H]) = some ((.tuple ⟨[(.slice a1 n1 c1), (.bool true)]⟩), denH [.seg H, .seg X1]))
 (.claim (opA (Plain.env [] (gE 0)) (.call 24 [(.const (.slice a1 n1 c1))]) [] (denH [.seg H, .seg X1]) = some ((denV (ofs [.seg H, .seg X1, .seg X2, .blk .fix [(.raw v0), (sB false)]]) (.ptr 3 0)), denH [.seg H, .seg X1, .seg X2, .blk .fix [(.raw v0), (sB false)]]))
 (.claim (opA (Plain.env [] (gE 0)) (.call 29 [(.const (denV (ofs [.seg H, .seg X1, .seg X2, .blk .fix [(.raw v0), (sB false)]]) (.ptr 3 0)))]) [] (denH [.seg H, .seg X1, .seg X2, .blk .fix [(.raw v0), (sB false)]]) = some ((.int .i64 p), denH [.seg H, .seg X1, .seg X2, .blk .fix [(.raw v1), (sB b1)]]))
 (.claim (opA (Plain.env [] (gE 0)) (.call 25 [(.const (denV (ofs [.seg H, .seg X1, .seg X2, .blk .fix [(.raw v1), (sB b1)]]) (.ptr 3 0))), (.const (.int .i64 64))]) [] (denH [.seg H, .seg X1, .seg X2, .blk .fix [(.raw v1), (sB b1)]]) = some ((.int .i64 k), denH [.seg H, .seg X1, .seg X2, .blk .fix [(.raw v2), (sB b2)]]))
 (.claim (Wp (Plain.env [] (gE 0)) (inL [2, 3, 4, 7, 8, 9]) (.block 0 (.loop body61_0)) (denF [.seg H, .seg X1, .seg X2, .blk .fix [(.raw v2), (sB b2)]] (frS 65 [(2, (sI 0)), (3, (.raw (.slice none 0 0))), (4, (sI 0)), (7, (.ptr 3 0)), (8, (sI p)), (9, (.raw (.slice none 0 0))), (25, (sI k)), (26, (sI 0))])) (denH [.seg H, .seg X1, .seg X2, .blk .fix [(.raw v2), (sB b2)]]) fun e_ s_ h_ => e_ = .normal ∧ s_ = denF [.seg H, .seg X1, .seg X2, .blk .fix [(.raw v3), (sB b3)], .seg J] (frS 65 [(2, (sI 0)), (3, (.raw (.slice none 0 0))), (4, (sI 0)), (7, (.ptr 3 0)), (8, (sI p)), (9, (.raw (.slice al nl cl)))]) ∧ h_ = denH [.seg H, .seg X1, .seg X2, .blk .fix [(.raw v3), (sB b3)], .seg J])
 (.claim (opA (Plain.env [] (gE 0)) (.call 28 [(.const (denV (ofs [.seg H, .seg X1, .seg X2, .blk .fix [(.raw v3), (sB b3)], .seg J]) (.ptr 3 0)))]) [] (denH [.seg H, .seg X1, .seg X2, .blk .fix [(.raw v3), (sB b3)], .seg J]) = some ((.bool false), denH [.seg H, .seg X1, .seg X2, .blk .fix [(.raw v3), (sB b3)], .seg J]))
 (.ret .ret [(.raw (.tuple ⟨[(.int .i64 0), (.slice none 0 0), (.int .i64 1)]⟩))] [.seg H, .seg X1, .seg X2, .blk .fix [(.raw v3), (sB b3)], .seg J]))))))) := by kernel_rfl
def hn61c (sa a1 al : Option Addr) (n c n1 c1 nl cl : Nat) (p k : Int) (v0 v1 v2 v3 : Value) (b1 b2 b3 : Bool) (H X1 X2 J : Heap) : Hs := (.use 26000015 (.raw (.tuple ⟨[(.slice a1 n1 c1), (.bool true)]⟩)) ⟨[], [.seg X1]⟩ (.con (.use 26000021 (.ptr 3 0) ⟨[], [.seg X2, .blk .fix [(.raw v0), (sB false)]]⟩ (.use 26000023 (sI p) ⟨[(3, .blk .fix [(.raw v1), (sB b1)])], []⟩ (.use 26000025 (sI k) ⟨[(3, .blk .fix [(.raw v2), (sB b2)])], []⟩ (.lp 0 [2, 3, 4, 7, 8, 9] (frS 65 [(2, (sI 0)), (3, (.raw (.slice none 0 0))), (4, (sI 0)), (7, (.ptr 3 0)), (8, (sI p)), (9, (.raw (.slice al nl cl)))]) ⟨[(3, .blk .fix [(.raw v3), (sB b3)])], [.seg J]⟩ (.use 26000056 (sB true) ⟨[], []⟩ (.con (.use 26000061 (sB false) ⟨[], []⟩ (.con .nil))))))))))
theorem tree61c (sa a1 al : Option Addr) (n c n1 c1 nl cl : Nat) (p k : Int) (v0 v1 v2 v3 : Value) (b1 b2 b3 : Bool) (H X1 X2 J : Heap) : fnS [] (gE 0) (cE 0) 100 il61 (hn61c sa a1 al n c n1 c1 nl cl p k v0 v1 v2 v3 b1 b2 b3 H X1 X2 J) [(.raw (.slice sa n c))] [.seg H] =
(.claim (opA (Plain.env [] (gE 0)) (.call 32 [(.const (.slice sa n c))]) [] (denH [.seg H]) = some ((.tuple ⟨[(.slice a1 n1 c1), (.bool true)]⟩), denH [.seg H, .seg X1]))
 (.claim (opA (Plain.env [] (gE 0)) (.call 24 [(.const (.slice a1 n1 c1))]) [] (denH [.seg H, .seg X1]) = some ((denV (ofs [.seg H, .seg X1, .seg X2, .blk .fix [(.raw v0), (sB false)]]) (.ptr 3 0)), denH [.seg H, .seg X1, .seg X2, .blk .fix [(.raw v0), (sB false)]]))
 (.claim (opA (Plain.env [] (gE 0)) (.call 29 [(.const (denV (ofs [.seg H, .seg X1, .seg X2, .blk .fix [(.raw v0), (sB false)]]) (.ptr 3 0)))]) [] (denH [.seg H, .seg X1, .seg X2, .blk .fix [(.raw v0), (sB false)]]) = some ((.int .i64 p), denH [.seg H, .seg X1, .seg X2, .blk .fix [(.raw v1), (sB b1)]]))
 (.claim (opA (Plain.env [] (gE 0)) (.call 25 [(.const (denV (ofs [.seg H, .seg X1, .seg X2, .blk .fix [(.raw v1), (sB b1)]]) (.ptr 3 0))), (.const (.int .i64 64))]) [] (denH [.seg H, .seg X1, .seg X2, .blk .fix [(.raw v1), (sB b1)]]) = some ((.int .i64 k), denH [.seg H, .seg X1, .seg X2, .blk .fix [(.raw v2), (sB b2)]]))
 (.claim (Wp (Plain.env [] (gE 0)) (inL [2, 3, 4, 7, 8, 9]) (.block 0 (.loop body61_0)) (denF [.seg H, .seg X1, .seg X2, .blk .fix [(.raw v2), (sB b2)]] (frS 65 [(2, (sI 0)), (3, (.raw (.slice none 0 0))), (4, (sI 0)), (7, (.ptr 3 0)), (8, (sI p)), (9, (.raw (.slice none 0 0))), (25, (sI k)), (26, (sI 0))])) (denH [.seg H, .seg X1, .seg X2, .blk .fix [(.raw v2), (sB b2)]]) fun e_ s_ h_ => e_ = .normal ∧ s_ = denF [.seg H, .seg X1, .seg X2, .blk .fix [(.raw v3), (sB b3)], .seg J] (frS 65 [(2, (sI 0)), (3, (.raw (.slice none 0 0))), (4, (sI 0)), (7, (.ptr 3 0)), (8, (sI p)), (9, (.raw (.slice al nl cl)))]) ∧ h_ = denH [.seg H, .seg X1, .seg X2, .blk .fix [(.raw v3), (sB b3)], .seg J])
 (.claim (opA (Plain.env [] (gE 0)) (.call 28 [(.const (denV (ofs [.seg H, .seg X1, .seg X2, .blk .fix [(.raw v3), (sB b3)], .seg J]) (.ptr 3 0)))]) [] (denH [.seg H, .seg X1, .seg X2, .blk .fix [(.raw v3), (sB b3)], .seg J]) = some ((.bool true), denH [.seg H, .seg X1, .seg X2, .blk .fix [(.raw v3), (sB b3)], .seg J]))
 (.claim (opA (Plain.env [] (gE 0)) (.call 90 [(.const (.int .i64 p)), (.const (.slice al nl cl))]) [] (denH [.seg H, .seg X1, .seg X2, .blk .fix [(.raw v3), (sB b3)], .seg J]) = some ((.bool false), denH [.seg H, .seg X1, .seg X2, .blk .fix [(.raw v3), (sB b3)], .seg J]))
 (.ret .ret [(.raw (.tuple ⟨[(.int .i64 0), (.slice none 0 0), (.int .i64 3)]⟩))] [.seg H, .seg X1, .seg X2, .blk .fix [(.raw v3), (sB b3)], .seg J])))))))) := by kernel_rfl
def hn61d (sa a1 al : Option Addr) (n c n1 c1 nl cl : Nat) (p k : Int) (v0 v1 v2 v3 : Value) (b1 b2 b3 : Bool) (H X1 X2 J : Heap) : Hs := (.use 26000015 (.raw (.tuple ⟨[(.slice a1 n1 c1), (.bool true)]⟩)) ⟨[], [.seg X1]⟩ (.con (.use 26000021 (.ptr 3 0) ⟨[], [.seg X2, .blk .fix [(.raw v0), (sB false)]]⟩ (.use 26000023 (sI p) ⟨[(3, .blk .fix [(.raw v1), (sB b1)])], []⟩ (.use 26000025 (sI k) ⟨[(3, .blk .fix [(.raw v2), (sB b2)])], []⟩ (.lp 0 [2, 3, 4, 7, 8, 9] (frS 65 [(2, (sI 0)), (3, (.raw (.slice none 0 0))), (4, (sI 0)), (7, (.ptr 3 0)), (8, (sI p)), (9, (.raw (.slice al nl cl)))]) ⟨[(3, .blk .fix [(.raw v3), (sB b3)])], [.seg J]⟩ (.use 26000056 (sB true) ⟨[], []⟩ (.con (.use 26000061 (sB true) ⟨[], []⟩ (.con .nil))))))))))
theorem tree61d (sa a1 al : Option Addr) (n c n1 c1 nl cl : Nat) (p k : Int) (v0 v1 v2 v3 : Value) (b1 b2 b3 : Bool) (H X1 X2 J : Heap) : fnS [] (gE 0) (cE 0) 100 il61 (hn61d sa a1 al n c n1 c1 nl cl p k v0 v1 v2 v3 b1 b2 b3 H X1 X2 J) [(.raw (.slice sa n c))] [.seg H] =
(.claim (opA (Plain.env [] (gE 0)) (.call 32 [(.const (.slice sa n c))]) [] (denH [.seg H]) = some ((.tuple ⟨[(.slice a1 n1 c1), (.bool true)]⟩), denH [.seg H, .seg X1]))
 (.claim (opA (Plain.env [] (gE 0)) (.call 24 [(.const (.slice a1 n1 c1))]) [] (denH [.seg H, .seg X1]) = some ((denV (ofs [.seg H, .seg X1, .seg X2, .blk .fix [(.raw v0), (sB false)]]) (.ptr 3 0)), denH [.seg H, .seg X1, .seg X2, .blk .fix [(.raw v0), (sB false)]]))
 (.claim (opA (Plain.env [] (gE 0)) (.call 29 [(.const (denV (ofs [.seg H, .seg X1, .seg X2, .blk .fix [(.raw v0), (sB false)]]) (.ptr 3 0)))]) [] (denH [.seg H, .seg X1, .seg X2, .blk .fix [(.raw v0), (sB false)]]) = some ((.int .i64 p), denH [.seg H, .seg X1, .seg X2, .blk .fix [(.raw v1), (sB b1)]]))
 (.claim (opA (Plain.env [] (gE 0)) (.call 25 [(.const (denV (ofs [.seg H, .seg X1, .seg X2, .blk .fix [(.raw v1), (sB b1)]]) (.ptr 3 0))), (.const (.int .i64 64))]) [] (denH [.seg H, .seg X1, .seg X2, .blk .fix [(.raw v1), (sB b1)]]) = some ((.int .i64 k), denH [.seg H, .seg X1, .seg X2, .blk .fix [(.raw v2), (sB b2)]]))
 (.claim (Wp (Plain.env [] (gE 0)) (inL [2, 3, 4, 7, 8, 9]) (.block 0 (.loop body61_0)) (denF [.seg H, .seg X1, .seg X2, .blk .fix [(.raw v2), (sB b2)]] (frS 65 [(2, (sI 0)), (3, (.raw (.slice none 0 0))), (4, (sI 0)), (7, (.ptr 3 0)), (8, (sI p)), (9, (.raw (.slice none 0 0))), (25, (sI k)), (26, (sI 0))])) (denH [.seg H, .seg X1, .seg X2, .blk .fix [(.raw v2), (sB b2)]]) fun e_ s_ h_ => e_ = .normal ∧ s_ = denF [.seg H, .seg X1, .seg X2, .blk .fix [(.raw v3), (sB b3)], .seg J] (frS 65 [(2, (sI 0)), (3, (.raw (.slice none 0 0))), (4, (sI 0)), (7, (.ptr 3 0)), (8, (sI p)), (9, (.raw (.slice al nl cl)))]) ∧ h_ = denH [.seg H, .seg X1, .seg X2, .blk .fix [(.raw v3), (sB b3)], .seg J])
 (.claim (opA (Plain.env [] (gE 0)) (.call 28 [(.const (denV (ofs [.seg H, .seg X1, .seg X2, .blk .fix [(.raw v3), (sB b3)], .seg J]) (.ptr 3 0)))]) [] (denH [.seg H, .seg X1, .seg X2, .blk .fix [(.raw v3), (sB b3)], .seg J]) = some ((.bool true), denH [.seg H, .seg X1, .seg X2, .blk .fix [(.raw v3), (sB b3)], .seg J]))
 (.claim (opA (Plain.env [] (gE 0)) (.call 90 [(.const (.int .i64 p)), (.const (.slice al nl cl))]) [] (denH [.seg H, .seg X1, .seg X2, .blk .fix [(.raw v3), (sB b3)], .seg J]) = some ((.bool true), denH [.seg H, .seg X1, .seg X2, .blk .fix [(.raw v3), (sB b3)], .seg J]))
 (.ret .ret [(.raw (.tuple ⟨[(.int .i64 p), (.slice al nl cl), (.int .i64 0)]⟩))] [.seg H, .seg X1, .seg X2, .blk .fix [(.raw v3), (sB b3)], .seg J])))))))) := by kernel_rfl
theorem loop {H X1 X2 : Heap} {v : Value} {l : List Int} {b : Bool} {p : Int} {n : Nat} (h0 : RowsW 1 (denH [.seg H, .seg X1, .seg X2]) v (l.map ir)) (hn : n ≤ 64) :
    ∃ (v3 : Value) (J : Heap) (al : Option Addr) (cl : Nat), Wp (Plain.env [] (gE 0)) (inL [2, 3, 4, 7, 8, 9]) (.block 0 (.loop body61_0)) (denF [.seg H, .seg X1, .seg X2, rdB v b] (frS 65 [(2, (sI 0)), (3, (.raw (.slice none 0 0))), (4, (sI 0)), (7, (.ptr 3 0)), (8, (sI p)), (9, (.raw (.slice none 0 0))), (25, (sI (n : Int))), (26, (sI 0))])) (denH [.seg H, .seg X1, .seg X2, rdB v b]) (fun e_ s_ h_ => e_ = .normal ∧ s_ = denF [.seg H, .seg X1, .seg X2, rdB v3 (lnsR n l b).2.2, .seg J] (frS 65 [(2, (sI 0)), (3, (.raw (.slice none 0 0))), (4, (sI 0)), (7, (.ptr 3 0)), (8, (sI p)), (9, (.raw (.slice al n cl)))]) ∧ h_ = denH [.seg H, .seg X1, .seg X2, rdB v3 (lnsR n l b).2.2, .seg J]) ∧
      RowsW 1 (denH [.seg H, .seg X1, .seg X2]) v3 ((lnsR n l b).2.1.map ir) ∧ LsS 7 (denH [.seg H, .seg X1, .seg X2, rdB v3 (lnsR n l b).2.2]) J (.slice al n cl) ((lnsR n l b).1.map e7) := by
  have key : Wp (Plain.env [] (gE 0)) (inL [2, 3, 4, 7, 8, 9]) (.block 0 (.loop body61_0)) (denF [.seg H, .seg X1, .seg X2, rdB v b] (frS 65 [(2, (sI 0)), (3, (.raw (.slice none 0 0))), (4, (sI 0)), (7, (.ptr 3 0)), (8, (sI p)), (9, (.raw (.slice none 0 0))), (25, (sI (n : Int))), (26, (sI 0))])) (denH [.seg H, .seg X1, .seg X2, rdB v b]) fun e_ s_ h_ => ∃ (v3 : Value) (J : Heap) (al : Option Addr) (cl : Nat), (e_ = .normal ∧ s_ = denF [.seg H, .seg X1, .seg X2, rdB v3 (lnsR n l b).2.2, .seg J] (frS 65 [(2, (sI 0)), (3, (.raw (.slice none 0 0))), (4, (sI 0)), (7, (.ptr 3 0)), (8, (sI p)), (9, (.raw (.slice al n cl)))]) ∧ h_ = denH [.seg H, .seg X1, .seg X2, rdB v3 (lnsR n l b).2.2, .seg J]) ∧
      RowsW 1 (denH [.seg H, .seg X1, .seg X2]) v3 ((lnsR n l b).2.1.map ir) ∧ LsS 7 (denH [.seg H, .seg X1, .seg X2, rdB v3 (lnsR n l b).2.2]) J (.slice al n cl) ((lnsR n l b).1.map e7) := by
    refine Wp.bl (fun m t h => ∃ (i : Nat) (v0 : Value) (li : List Int) (bi : Bool) (J : Heap) (al : Option Addr) (cl : Nat) (acc : List R7), i + m = n ∧ t = denF [.seg H, .seg X1, .seg X2, rdB v0 bi, .seg J] (frS 65 [(2, (sI 0)), (3, (.raw (.slice none 0 0))), (4, (sI 0)), (7, (.ptr 3 0)), (8, (sI p)), (9, (.raw (.slice al i cl))), (25, (sI (n : Int))), (26, (sI i))]) ∧ h = denH [.seg H, .seg X1, .seg X2, rdB v0 bi, .seg J] ∧
        RowsW 1 (denH [.seg H, .seg X1, .seg X2]) v0 (li.map ir) ∧ LsS 7 (denH [.seg H, .seg X1, .seg X2, rdB v0 bi]) J (.slice al i cl) (acc.map e7) ∧ acc.length = i ∧ lnsR n l b = (acc ++ (lnsR m li bi).1, (lnsR m li bi).2)) ?_ n _ _
      ⟨0, v, l, b, [], none, 0, [], by omega, by show denF _ _ = denF _ _; kernel_rfl, by simp [denH, denL, It.den, den0], h0, .inl ⟨rfl, rfl⟩, rfl, rfl⟩
    rintro m t h ⟨i, v0, li, bi, J, al, cl, acc, hi, rfl, rfl, hv, hl, hacc, hln⟩
    by_cases hlt : i < n
    · obtain ⟨m', rfl⟩ : ∃ m', m = m' + 1 := ⟨m - 1, by omega⟩
      obtain ⟨q0, e0⟩ : ∃ q, q = nx li bi := ⟨_, rfl⟩
      obtain ⟨v1, h1, r0⟩ := RD.N.use29 (I1 := [.seg H, .seg X1, .seg X2]) rfl [.seg J, .blk .fix [sI 0, sI 0, sI 0, sI 0, sI 0, sI 0, sB false], .blk .fix [.ptr 5 0, .ptr 5 1, .ptr 5 2, .ptr 5 3, .ptr 5 4, .ptr 5 5]] (bad := bi) hv
      rw [← e0] at h1 r0
      obtain ⟨q1, e1⟩ : ∃ q, q = nx q0.2.1 q0.2.2 := ⟨_, rfl⟩
      obtain ⟨v2, h2, r1⟩ := RD.N.use29 (I1 := [.seg H, .seg X1, .seg X2]) rfl [.seg J, .blk .fix [sI q0.1, sI 0, sI 0, sI 0, sI 0, sI 0, sB false], .blk .fix [.ptr 5 0, .ptr 5 1, .ptr 5 2, .ptr 5 3, .ptr 5 4, .ptr 5 5]] (bad := q0.2.2) h1
      rw [← e1] at h2 r1
      obtain ⟨q2, e2⟩ : ∃ q, q = nx q1.2.1 q1.2.2 := ⟨_, rfl⟩
      obtain ⟨v3, h3, r2⟩ := RD.N.use29 (I1 := [.seg H, .seg X1, .seg X2]) rfl [.seg J, .blk .fix [sI q0.1, sI q1.1, sI 0, sI 0, sI 0, sI 0, sB false], .blk .fix [.ptr 5 0, .ptr 5 1, .ptr 5 2, .ptr 5 3, .ptr 5 4, .ptr 5 5]] (bad := q1.2.2) h2
      rw [← e2] at h3 r2
      obtain ⟨q3, e3⟩ : ∃ q, q = nx q2.2.1 q2.2.2 := ⟨_, rfl⟩
      obtain ⟨v4, h4, r3⟩ := RD.N.use29 (I1 := [.seg H, .seg X1, .seg X2]) rfl [.seg J, .blk .fix [sI q0.1, sI q1.1, sI q2.1, sI 0, sI 0, sI 0, sB false], .blk .fix [.ptr 5 0, .ptr 5 1, .ptr 5 2, .ptr 5 3, .ptr 5 4, .ptr 5 5]] (bad := q2.2.2) h3
      rw [← e3] at h4 r3
      obtain ⟨q4, e4⟩ : ∃ q, q = nx q3.2.1 q3.2.2 := ⟨_, rfl⟩
      obtain ⟨v5, h5, r4⟩ := RD.N.use29 (I1 := [.seg H, .seg X1, .seg X2]) rfl [.seg J, .blk .fix [sI q0.1, sI q1.1, sI q2.1, sI q3.1, sI 0, sI 0, sB false], .blk .fix [.ptr 5 0, .ptr 5 1, .ptr 5 2, .ptr 5 3, .ptr 5 4, .ptr 5 5]] (bad := q3.2.2) h4
      rw [← e4] at h5 r4
      obtain ⟨q5, e5⟩ : ∃ q, q = nx q4.2.1 q4.2.2 := ⟨_, rfl⟩
      obtain ⟨v6, h6, r5⟩ := RD.N.use29 (I1 := [.seg H, .seg X1, .seg X2]) rfl [.seg J, .blk .fix [sI q0.1, sI q1.1, sI q2.1, sI q3.1, sI q4.1, sI 0, sB false], .blk .fix [.ptr 5 0, .ptr 5 1, .ptr 5 2, .ptr 5 3, .ptr 5 4, .ptr 5 5]] (bad := q4.2.2) h5
      rw [← e5] at h6 r5
      obtain ⟨q6, e6⟩ : ∃ q, q = mny 1 q5.2.1 q5.2.2 := ⟨_, rfl⟩
      obtain ⟨v7, h7, r6⟩ := RD.M.use25 (I1 := [.seg H, .seg X1, .seg X2]) rfl [.seg J, .blk .fix [sI q0.1, sI q1.1, sI q2.1, sI q3.1, sI q4.1, sI q5.1, sB false], .blk .fix [.ptr 5 0, .ptr 5 1, .ptr 5 2, .ptr 5 3, .ptr 5 4, .ptr 5 5]] (bad := q5.2.2) 1 h6
      rw [← e6] at h7 r6
      have hb : LsS 7 (denH [.seg H, .seg X1, .seg X2, rdB v7 q6.2.2]) J (.slice al i cl) (acc.map e7) := hl.base (by simp [denH, denL, It.den])
      obtain ⟨a2, c2, J2, X, K, g1, g2, g3, g4⟩ := appRowP (I := [.seg H, .seg X1, .seg X2, rdB v7 q6.2.2]) (R := [.blk .fix [sI q0.1, sI q1.1, sI q2.1, sI q3.1, sI q4.1, sI q5.1, sB (q6.1 == 1)], .blk .fix [.ptr 5 0, .ptr 5 1, .ptr 5 2, .ptr 5 3, .ptr 5 4, .ptr 5 5]]) (w := 7) (eby := 56) (row := e7 ⟨q0.1, q1.1, q2.1, q3.1, q4.1, q5.1, q6.1 == 1⟩) (cs := [sI q0.1, sI q1.1, sI q2.1, sI q3.1, sI q4.1, sI q5.1, sB (q6.1 == 1)]) rfl rfl hb (fun _ => rfl) rfl (by decide) (by simp [hacc]; omega) (by simp [hacc]; omega)
      have hlen : (acc.map e7).length = i := by simp [hacc]
      rw [hlen] at g2 g4
      have eL : lineR li bi = (⟨q0.1, q1.1, q2.1, q3.1, q4.1, q5.1, q6.1 == 1⟩, q6.2) := by unfold lineR; rw [← e0]; dsimp only; rw [← e1, ← e2, ← e3, ← e4, ← e5, ← e6]
      refine Wp.tree (cE_ok 0) (tree61t al a2 i cl (i + 1) c2 p n i q0.1 q1.1 q2.1 q3.1 q4.1 q5.1 q6.1 v0 v1 v2 v3 v4 v5 v6 v7 bi q0.2.2 q1.2.2 q2.2.2 q3.2.2 q4.2.2 q5.2.2 q6.2.2 H X1 X2 J J2 X) ⟨rfl, rfl⟩ ⟨fun _ => ⟨call (args := [_]) r0, call (args := [_]) r1, call (args := [_]) r2, call (args := [_]) r3, call (args := [_]) r4, call (args := [_]) r5, call (args := [_, _]) r6, g1, g2 _, end_next m' (by omega) ⟨i + 1, v7, q6.2.1, q6.2.2, K, a2, c2, acc ++ [⟨q0.1, q1.1, q2.1, q3.1, q4.1, q5.1, q6.1 == 1⟩], by omega, ?_, g3, h7, ?_, by simp [hacc], ?_⟩⟩, fun q => by simp at q; omega⟩
      · rw [wrap64 (x := (i : Int) + 1) (by omega) (by omega)]; show denF _ _ = denF _ _; kernel_rfl
      · rw [List.map_append]; exact g4
      · rw [hln]; simp [lnsR, eL]
    · obtain rfl : m = 0 := by omega
      obtain rfl : i = n := by omega
      have e1 : (lnsR i l b).2.2 = bi := by rw [hln]; rfl
      have e2 : (lnsR i l b).2.1 = li := by rw [hln]; rfl
      have e3 : (lnsR i l b).1 = acc := by rw [hln]; simp [lnsR]
      rw [e1, e2, e3]
      exact Wp.tree (cE_ok 0) (tree61t al al i cl i cl p i i 0 0 0 0 0 0 0 v0 v0 v0 v0 v0 v0 v0 v0 bi bi bi bi bi bi bi bi H X1 X2 J J J) ⟨rfl, rfl⟩ ⟨fun q => by simp at q, fun _ => end_exit ⟨v0, J, al, cl, ⟨rfl, by show denF _ _ = denF _ _; kernel_rfl, rfl⟩, hv, hl⟩⟩
  obtain ⟨e, t1, h1, ⟨v3, J, al, cl, ⟨rfl, rfl, rfl⟩, hq⟩, w⟩ := key.exact
  exact ⟨v3, J, al, cl, w, hq⟩
theorem sum61 : Summ Try.prog 61 (runE (Plain.env [] (gE 0)) il61) := Summ.runE mixed (gE_ok 0) (gE_q 0) st61
theorem run61 {H : Heap} {s : Value} {bs : List Int} (hs : RowsW 1 H s (bs.map br)) (hb : bs.length ≤ 1000000) :
    ∃ a c X, runE (Plain.env [] (gE 0)) il61 [s] H = some (.tuple ⟨[.int .i64 (decF bs).1, .slice a (decF bs).2.1.length c, .int .i64 (decF bs).2.2]⟩, H ++ X) ∧ LsS 7 H X (.slice a (decF bs).2.1.length c) ((decF bs).2.1.map e7) := by
  obtain ⟨sa, sc, rfl⟩ := hs.slcM
  have h0 : RowsW 1 (denH [.seg H]) (.slice sa bs.length sc) (bs.map br) := by simpa [denH, denL, It.den] using hs
  have e0 : denH [.seg H] = H := by simp [denH, denL, It.den]
  obtain ⟨a1, c1, X1, g1, r1⟩ := useI (I := [.seg H]) rfl h0 (by omega)
  have nil : ∀ (q : Int) (X : Heap), decF bs = (0, [], q) → runE (Plain.env [] (gE 0)) il61 [.slice sa bs.length sc] H = some (.tuple ⟨[.int .i64 0, .slice none 0 0, .int .i64 q]⟩, H ++ X) → ∃ a c X, runE (Plain.env [] (gE 0)) il61 [.slice sa bs.length sc] H = some (.tuple ⟨[.int .i64 (decF bs).1, .slice a (decF bs).2.1.length c, .int .i64 (decF bs).2.2]⟩, H ++ X) ∧ LsS 7 H X (.slice a (decF bs).2.1.length c) ((decF bs).2.1.map e7) := fun q X e r => by
    rw [e]
    exact ⟨none, 0, X, r, .nil⟩
  cases ok : okI bs with
  | false =>
    rw [ok] at g1
    have ed : decF bs = (0, [], 1) := by unfold decF; rw [ok]; rfl
    obtain ⟨w, h', rr, rfl, rfl⟩ := fnS_run (Q := fun w h' => w = .tuple ⟨[.int .i64 0, .slice none 0 0, .int .i64 1]⟩ ∧ h' = H ++ X1) (cE_ok 0) (tree61a sa a1 none bs.length sc (intsF bs).length c1 0 0 0 0 (.slice none 0 0) (.slice none 0 0) (.slice none 0 0) (.slice none 0 0) false false false H X1 [] []) ⟨rfl, rfl⟩ ⟨call (args := [_]) g1, rfl, by simp [denH, denL, It.den]⟩
    exact nil 1 X1 ed (by rw [e0] at rr; exact rr)
  | true =>
    rw [ok] at g1
    have nI : (intsF bs).length ≤ 1000000 := by rw [WI.intsF_len]; split <;> omega
    obtain ⟨v0, X2, r2, g2⟩ := RD.R.use24 (I := [.seg H, .seg X1]) rfl r1 nI
    obtain ⟨q0, e1⟩ : ∃ q, q = nx (intsF bs) false := ⟨_, rfl⟩
    obtain ⟨v1, r3, g3⟩ := RD.N.use29 (I1 := [.seg H, .seg X1, .seg X2]) rfl [] (bad := false) r2
    rw [← e1] at r3 g3
    obtain ⟨k0, e2⟩ : ∃ q, q = mny 64 q0.2.1 q0.2.2 := ⟨_, rfl⟩
    obtain ⟨v2, r4, g4⟩ := RD.M.use25 (I1 := [.seg H, .seg X1, .seg X2]) rfl [] (bad := q0.2.2) 64 r3
    have hk := mny_b 64 (by decide) q0.2.1 q0.2.2
    rw [← e2] at r4 g4 hk
    obtain ⟨n, hn⟩ : ∃ n : Nat, (n : Int) = k0.1 := ⟨k0.1.toNat, by omega⟩
    obtain ⟨v3, J, al, cl, w, r5, hL⟩ := loop (p := q0.1) (n := n) (b := k0.2.2) r4 (by omega)
    obtain ⟨z, ez⟩ : ∃ z, z = lnsR n k0.2.1 k0.2.2 := ⟨_, rfl⟩
    have zl : z.1.length = n := by rw [ez]; exact lnsR_len _ _ _
    have ed : decF bs = if doneB z.2.1 z.2.2 then if tapeOk q0.1 z.1 then (q0.1, z.1, 0) else (0, [], 3) else (0, [], 1) := by
      unfold decF
      rw [ok, if_pos rfl, ← e1]
      dsimp only
      rw [← e2, ← hn, Int.toNat_natCast, ← ez]
    rw [← ez] at w r5 hL
    have g5 := RD.N.use28 (I1 := [.seg H, .seg X1, .seg X2]) rfl [.seg J] (bad := z.2.2) r5
    rw [hn] at w
    cases dn : doneB z.2.1 z.2.2 with
    | false =>
      rw [dn] at ed g5
      rw [if_neg (by decide)] at ed
      obtain ⟨w, h', rr, rfl, rfl⟩ := fnS_run (Q := fun w h' => w = .tuple ⟨[.int .i64 0, .slice none 0 0, .int .i64 1]⟩ ∧ h' = H ++ (X1 ++ (X2 ++ (some ⟨.fix, [v3, .bool z.2.2]⟩ :: J)))) (cE_ok 0) (tree61b sa a1 al bs.length sc (intsF bs).length c1 n cl q0.1 k0.1 v0 v1 v2 v3 q0.2.2 k0.2.2 z.2.2 H X1 X2 J) ⟨rfl, rfl⟩ ⟨call (args := [_]) g1, call (args := [_]) g2, call (args := [_]) g3, call (args := [_, _]) g4, w, call (args := [_]) g5, rfl, by simp [denH, denL, It.den, den0]⟩
      exact nil 1 _ ed (by rw [e0] at rr; exact rr)
    | true =>
      rw [dn] at ed g5
      rw [if_pos rfl] at ed
      have hr : RowsW 7 (denH [.seg H, .seg X1, .seg X2, rdB v3 z.2.2, .seg J]) (.slice al z.1.length cl) (z.1.map e7) := by
        rw [zl]
        exact hL.rowsI (I := [.seg H, .seg X1, .seg X2, rdB v3 z.2.2]) (K := [.seg J]) rfl (by decide) (by simp [denL, It.den])
      have g6 := TE.R90.call (p := q0.1) hr (by omega)
      rw [zl] at g6
      cases rt : tapeOk q0.1 z.1 with
      | false =>
        rw [rt] at ed g6
        rw [if_neg (by decide)] at ed
        obtain ⟨w, h', rr, rfl, rfl⟩ := fnS_run (Q := fun w h' => w = .tuple ⟨[.int .i64 0, .slice none 0 0, .int .i64 3]⟩ ∧ h' = H ++ (X1 ++ (X2 ++ (some ⟨.fix, [v3, .bool z.2.2]⟩ :: J)))) (cE_ok 0) (tree61c sa a1 al bs.length sc (intsF bs).length c1 n cl q0.1 k0.1 v0 v1 v2 v3 q0.2.2 k0.2.2 z.2.2 H X1 X2 J) ⟨rfl, rfl⟩ ⟨call (args := [_]) g1, call (args := [_]) g2, call (args := [_]) g3, call (args := [_, _]) g4, w, call (args := [_]) g5, call (args := [_, _]) g6, rfl, by simp [denH, denL, It.den, den0]⟩
        exact nil 3 _ ed (by rw [e0] at rr; exact rr)
      | true =>
        rw [rt] at ed g6
        rw [if_pos rfl] at ed
        obtain ⟨w, h', rr, rfl, rfl⟩ := fnS_run (Q := fun w h' => w = .tuple ⟨[.int .i64 q0.1, .slice al n cl, .int .i64 0]⟩ ∧ h' = H ++ (X1 ++ (X2 ++ (some ⟨.fix, [v3, .bool z.2.2]⟩ :: J)))) (cE_ok 0) (tree61d sa a1 al bs.length sc (intsF bs).length c1 n cl q0.1 k0.1 v0 v1 v2 v3 q0.2.2 k0.2.2 z.2.2 H X1 X2 J) ⟨rfl, rfl⟩ ⟨call (args := [_]) g1, call (args := [_]) g2, call (args := [_]) g3, call (args := [_, _]) g4, w, call (args := [_]) g5, call (args := [_, _]) g6, rfl, by simp [denH, denL, It.den, den0]⟩
        rw [ed]
        refine ⟨al, cl, _, by rw [e0] at rr; rw [zl]; exact rr, ?_⟩
        have := LsS.ahead (H := H) (A := X1 ++ (X2 ++ [some ⟨.fix, [v3, .bool z.2.2]⟩])) (by simpa [denH, denL, It.den, den0] using hL)
        rw [zl]
        simpa using this
theorem use61 {I : SH} (hI : I.all (It.bnd I.length) = true) {s : Value} {bs : List Int} (hs : RowsW 1 (denH I) s (bs.map br)) (hb : bs.length ≤ 1000000) :
    ∃ a c X, runE (Plain.env [] (gE 0)) il61 [s] (denH I) = some (.tuple ⟨[.int .i64 (decF bs).1, .slice a (decF bs).2.1.length c, .int .i64 (decF bs).2.2]⟩, denH (I ++ [.seg X])) ∧ RowsW 7 (denH (I ++ [.seg X])) (.slice a (decF bs).2.1.length c) ((decF bs).2.1.map e7) := by
  obtain ⟨a, c, X, r, hL⟩ := run61 hs hb
  refine ⟨a, c, X, by rw [denH_snoc I hI]; exact r, ?_⟩
  have := hL.rows (by decide) []
  rw [denH_snoc I hI]
  simpa using this
end DC
end Go.Proofs.Ytgdojnamjkhknaa
