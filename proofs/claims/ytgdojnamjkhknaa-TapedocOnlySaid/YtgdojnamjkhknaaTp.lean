/-
  tape: which tapes may be.
-/
import Derived.Test.YtgdojnamjkhknaaWFn
import Derived.Test.YtgdojnamjkhknaaLnA
namespace Go.Proofs.Ytgdojnamjkhknaa
open Go.Am
set_option linter.all false
set_option maxRecDepth 100000
namespace TP
/-- May a line be? -/
def lineB (x : R7) : Bool := decide ((0 ≤ x.b ∧ x.b ≤ 1099511627776) ∧ (0 ≤ x.c ∧ x.c ≤ 1099511627776) ∧ (0 ≤ x.d ∧ x.d ≤ 1099511627776) ∧ (0 ≤ x.e ∧ x.e ≤ 1099511627776) ∧ 0 ≤ x.f ∧ x.f ≤ 12)
theorem lineB_iff {x : R7} : lineB x = true ↔ (0 ≤ x.b ∧ x.b ≤ 1099511627776) ∧ (0 ≤ x.c ∧ x.c ≤ 1099511627776) ∧ (0 ≤ x.d ∧ x.d ≤ 1099511627776) ∧ (0 ≤ x.e ∧ x.e ≤ 1099511627776) ∧ 0 ≤ x.f ∧ x.f ≤ 12 := by simp [lineB]
def rtF : Int → List R7 → Bool
  | _, [] => true
  | last, x :: r => if x.a ≤ last then false else if lineB x then rtF x.a r else false
def tapeB (l : List R7) : Bool := if 64 < l.length then false else rtF 0 l
namespace L91
open WB (gE cE gE_ok gE_q cE_ok)
/-- cascade/tape.right -/
def il91 : FnIL := ⟨34, [.tmp 2],
 .seq (.reg [
    ⟨(some 1), none, .box (.tmp 0)⟩,
    ⟨(some 2), none, .mov (.const (.bool false))⟩])
 (.seq (.seq (.reg [
     ⟨(some 5), none, .fadr 1 (.tmp 1)⟩,
     ⟨(some 6), none, .load (.tmp 5) none⟩,
     ⟨(some 7), none, .fadr 2 (.tmp 1)⟩,
     ⟨(some 8), none, .load (.tmp 7) none⟩,
     ⟨(some 9), none, .fadr 3 (.tmp 1)⟩,
     ⟨(some 10), none, .load (.tmp 9) none⟩,
     ⟨(some 11), none, .fadr 4 (.tmp 1)⟩,
     ⟨(some 12), none, .load (.tmp 11) none⟩,
     ⟨(some 13), none, .mkrow [(.int .i64 0), (.int .i64 0), (.int .i64 0), (.int .i64 0)] 4 [(0, 1, (.tmp 6)), (1, 1, (.tmp 8)), (2, 1, (.tmp 10)), (3, 1, (.tmp 12))]⟩,
     ⟨(some 14), none, .len (.tmp 13)⟩,
     ⟨(some 15), none, .mov (.const (.int .i64 0))⟩])
  (.block 0
    (.loop
      (.seq (.reg [
         ⟨(some 16), none, .bin .lss (.tmp 15) (.tmp 14)⟩])
      (.seq (.ite (.tmp 16)
         (.skip)
         (.exit 0))
      (.seq (.block 1
         (.seq (.reg [
            ⟨(some 17), none, .iadr 1 none (.tmp 13) (.tmp 15)⟩,
            ⟨(some 18), none, .load (.tmp 17) none⟩,
            ⟨(some 4), none, .mov (.tmp 18)⟩])
         (.seq (.reg [
            ⟨(some 19), none, .mov (.tmp 4)⟩,
            ⟨(some 20), none, .bin .lss (.tmp 19) (.const (.int .i64 0))⟩,
            ⟨(some 21), none, .mov (.tmp 20)⟩,
            ⟨(some 22), (some (21, false)), .mov (.tmp 4)⟩,
            ⟨(some 23), (some (21, false)), .bin .gtr (.tmp 22) (.const (.int .i64 1099511627776))⟩,
            ⟨(some 24), none, .pick (.tmp 21) (.const (.bool true)) (.tmp 23)⟩])
         (.ite (.tmp 24)
           (.seq (.reg [
              ⟨(some 2), none, .mov (.const (.bool false))⟩])
           (.ret))
           (.skip)))))
      (.reg [
        ⟨(some 25), none, .bin .add (.tmp 15) (.const (.int .i64 1))⟩,
        ⟨(some 15), none, .mov (.tmp 25)⟩])))))))
 (.seq (.reg [
    ⟨(some 26), none, .fadr 5 (.tmp 1)⟩,
    ⟨(some 27), none, .load (.tmp 26) none⟩,
    ⟨(some 28), none, .bin .geq (.tmp 27) (.const (.int .i64 0))⟩,
    ⟨(some 29), none, .mov (.tmp 28)⟩,
    ⟨(some 30), (some (29, true)), .fadr 5 (.tmp 1)⟩,
    ⟨(some 31), (some (29, true)), .load (.tmp 30) none⟩,
    ⟨(some 32), (some (29, true)), .bin .leq (.tmp 31) (.const (.int .i64 12))⟩,
    ⟨(some 33), none, .pick (.tmp 29) (.tmp 32) (.const (.bool false))⟩,
    ⟨(some 2), none, .mov (.tmp 33)⟩])
 (.ret)))⟩
theorem st91 : stF Try.prog qt 91 = some il91 := by kernel_rfl
def hn91 (x0 x1 x2 x3 x4 x5 : Int) (xb : Bool) : Hs := (.con (.join 3 (.con (.con (.con .nil))) (.con (.con (.con .nil))) (.sym .nil (.con (.join 3 (.con (.con (.con .nil))) (.con (.con (.con .nil))) (.sym .nil (.con (.join 3 (.con (.con (.con .nil))) (.con (.con (.con .nil))) (.sym .nil (.con (.join 3 (.con (.con (.con .nil))) (.con (.con (.con .nil))) (.sym .nil (.con (.join 4 (.con (.con (.con (.con .nil)))) (.con (.con (.con (.con .nil)))) .nil))))))))))))))
theorem tree91 (x0 x1 x2 x3 x4 x5 : Int) (xb : Bool) : fnS [] (gE 0) (cE 0) 200 il91 (hn91 x0 x1 x2 x3 x4 x5 xb) [(.raw (.agg ⟨[(.int .i64 x0), (.int .i64 x1), (.int .i64 x2), (.int .i64 x3), (.int .i64 x4), (.int .i64 x5), (.bool xb)]⟩))] [] =
(.req (bif (decide (x1 < 0)) then true else true) (.br (bif (decide (x1 < 0)) then true else (decide (x1 > 1099511627776)))
 (.ret .ret [(sB false)] [.blk .fix [(sI x0), (sI x1), (sI x2), (sI x3), (sI x4), (sI x5), (sB xb)], .blk .fix [(sI x1), (sI x2), (sI x3), (sI x4)]])
 (.req (bif (decide (x2 < 0)) then true else true) (.br (bif (decide (x2 < 0)) then true else (decide (x2 > 1099511627776)))
 (.ret .ret [(sB false)] [.blk .fix [(sI x0), (sI x1), (sI x2), (sI x3), (sI x4), (sI x5), (sB xb)], .blk .fix [(sI x1), (sI x2), (sI x3), (sI x4)]])
 (.req (bif (decide (x3 < 0)) then true else true) (.br (bif (decide (x3 < 0)) then true else (decide (x3 > 1099511627776)))
 (.ret .ret [(sB false)] [.blk .fix [(sI x0), (sI x1), (sI x2), (sI x3), (sI x4), (sI x5), (sB xb)], .blk .fix [(sI x1), (sI x2), (sI x3), (sI x4)]])
 (.req (bif (decide (x4 < 0)) then true else true) (.br (bif (decide (x4 < 0)) then true else (decide (x4 > 1099511627776)))
 (.ret .ret [(sB false)] [.blk .fix [(sI x0), (sI x1), (sI x2), (sI x3), (sI x4), (sI x5), (sB xb)], .blk .fix [(sI x1), (sI x2), (sI x3), (sI x4)]])
 (.req (bif (decide (x5 ≥ 0)) then true else true) (.ret .ret [(sB (bif (decide (x5 ≥ 0)) then (decide (x5 ≤ 12)) else false))] [.blk .fix [(sI x0), (sI x1), (sI x2), (sI x3), (sI x4), (sI x5), (sB xb)], .blk .fix [(sI x1), (sI x2), (sI x3), (sI x4)]])))))))))) := by kernel_rfl
theorem bif_f {a b : Bool} : (bif a then true else b) = false ↔ a = false ∧ b = false := by cases a <;> simp
theorem bif_t {a b : Bool} : (bif a then true else b) = true ↔ a = true ∨ b = true := by cases a <;> simp
theorem sim (x : R7) : Sim Try.prog 91 [.agg ⟨e7 x⟩] [] fun v _ => v = .bool (lineB x) := by
  have := fnS_tree (Q := fun v _ => v = .bool (lineB x)) mixed (gE_ok 0) (gE_q 0) (cE_ok 0) st91 (tree91 x.a x.b x.c x.d x.e x.f x.g) ⟨rfl, rfl⟩ (by
    have no : ∀ (h : ¬ ((0 ≤ x.b ∧ x.b ≤ 1099511627776) ∧ (0 ≤ x.c ∧ x.c ≤ 1099511627776) ∧ (0 ≤ x.d ∧ x.d ≤ 1099511627776) ∧ (0 ≤ x.e ∧ x.e ≤ 1099511627776) ∧ 0 ≤ x.f ∧ x.f ≤ 12)), lineB x = false := fun h => by simpa [lineB] using h
    refine ⟨bif_tt _, fun q => ?_, fun q1 => ⟨bif_tt _, fun q => ?_, fun q2 => ⟨bif_tt _, fun q => ?_, fun q3 => ⟨bif_tt _, fun q => ?_, fun q4 => ⟨bif_tt _, ?_⟩⟩⟩⟩⟩
    · rw [bif_t] at q
      show Value.bool false = _
      rw [no (by simp at q; omega)]
    · rw [bif_t] at q
      show Value.bool false = _
      rw [no (by simp at q; omega)]
    · rw [bif_t] at q
      show Value.bool false = _
      rw [no (by simp at q; omega)]
    · rw [bif_t] at q
      show Value.bool false = _
      rw [no (by simp at q; omega)]
    · rw [bif_f] at q1 q2 q3 q4
      simp at q1 q2 q3 q4
      show Value.bool _ = _
      congr 1
      by_cases h5 : 0 ≤ x.f ∧ x.f ≤ 12
      · rw [lineB_iff.2 ⟨by omega, by omega, by omega, by omega, h5.1, h5.2⟩]
        simp [h5.1, h5.2]
      · rw [no (by omega)]
        by_cases h6 : 0 ≤ x.f
        · have : ¬ x.f ≤ 12 := fun q => h5 ⟨h6, q⟩
          simp [this]
        · simp [h6])
  simpa [denH, denL, It.den, denF, denV, denA, den0, e7] using this
def sLine : List Value → Option (Bool × Value)
  | [.agg ⟨[.int .i64 a, .int .i64 b, .int .i64 c, .int .i64 d, .int .i64 e, .int .i64 f, .bool g]⟩] => some (true, .bool (lineB ⟨a, b, c, d, e, f, g⟩))
  | _ => none
theorem line_ok : ∀ args v, sLine args = some (true, v) → args.all (belowV 0) = true ∧ belowV 0 v = true ∧ Sim Try.prog 91 args [] fun v1 _ => v1 = v := by
  intro args v e
  unfold sLine at e
  split at e
  · rename_i a b c d e' f g
    cases e
    exact ⟨rfl, rfl, sim ⟨a, b, c, d, e', f, g⟩⟩
  · cases e
end L91
def tblT : Plain := [(91, L91.sLine)]
theorem tblT_ok : PlainOk Try.prog tblT := .cons L91.line_ok .nil
namespace R64
noncomputable abbrev gE (k : Nat) : Env := inE tblT [] k noEnv
noncomputable abbrev cE (k : Nat) : CallS := callS tblT [] noEnv 100 k
theorem gE_q (k : Nat) : QuietEnv qt (Plain.env tblT (gE k)) := Plain.quiet (inE_quiet noEnv_quiet (fun f F h => by cases h) k)
theorem gE_ok (k : Nat) : EnvOk Try.prog (Plain.env tblT (gE k)) := Plain.ok tblT_ok (inE_ok (qt := qt) mixed tblT_ok .nil (fun f F h => by cases h) noEnv_ok noEnv_quiet k)
theorem cE_ok (k : Nat) : CallOk (Plain.env tblT (gE k)) (cE k) := callS_ok k
/-- cascade/tape.Right -/
def il64 : FnIL := ⟨27, [.tmp 2],
 .seq (.reg [
    ⟨(some 2), none, .mov (.const (.bool false))⟩])
 (.seq (.seq (.reg [
     ⟨(some 6), none, .mov (.tmp 0)⟩,
     ⟨(some 7), none, .len (.tmp 6)⟩,
     ⟨(some 8), none, .bin .gtr (.tmp 7) (.const (.int .i64 64))⟩])
  (.ite (.tmp 8)
    (.seq (.reg [
       ⟨(some 2), none, .mov (.const (.bool false))⟩])
    (.ret))
    (.skip)))
 (.seq (.reg [
    ⟨(some 3), none, .mov (.const (.int .i64 0))⟩])
 (.seq (.seq (.reg [
     ⟨(some 9), none, .mov (.tmp 0)⟩,
     ⟨(some 10), none, .len (.tmp 9)⟩,
     ⟨(some 11), none, .mov (.const (.int .i64 0))⟩])
  (.block 0
    (.loop
      (.seq (.reg [
         ⟨(some 12), none, .bin .lss (.tmp 11) (.tmp 10)⟩])
      (.seq (.ite (.tmp 12)
         (.skip)
         (.exit 0))
      (.seq (.block 1
         (.seq (.reg [
            ⟨(some 13), none, .iadr 7 none (.tmp 9) (.tmp 11)⟩,
            ⟨(some 14), none, .load (.tmp 13) (some 7)⟩,
            ⟨(some 5), none, .alloc [(.int .i64 0), (.int .i64 0), (.int .i64 0), (.int .i64 0), (.int .i64 0), (.int .i64 0), (.bool false)]⟩,
            ⟨none, none, .store (.tmp 5) (.tmp 14) 7⟩])
         (.seq (.seq (.reg [
             ⟨(some 15), none, .fadr 0 (.tmp 5)⟩,
             ⟨(some 16), none, .load (.tmp 15) none⟩,
             ⟨(some 17), none, .mov (.tmp 3)⟩,
             ⟨(some 18), none, .bin .leq (.tmp 16) (.tmp 17)⟩,
             ⟨(some 19), none, .mov (.tmp 18)⟩,
             ⟨(some 20), (some (19, false)), .load (.tmp 5) (some 7)⟩,
             ⟨(some 21), (some (19, false)), .call 91 [(.tmp 20)]⟩,
             ⟨(some 22), (some (19, false)), .un .not (.tmp 21)⟩,
             ⟨(some 23), none, .pick (.tmp 19) (.const (.bool true)) (.tmp 22)⟩])
          (.ite (.tmp 23)
            (.seq (.reg [
               ⟨(some 2), none, .mov (.const (.bool false))⟩])
            (.ret))
            (.skip)))
         (.reg [
           ⟨(some 24), none, .fadr 0 (.tmp 5)⟩,
           ⟨(some 25), none, .load (.tmp 24) none⟩,
           ⟨(some 3), none, .mov (.tmp 25)⟩]))))
      (.reg [
        ⟨(some 26), none, .bin .add (.tmp 11) (.const (.int .i64 1))⟩,
        ⟨(some 11), none, .mov (.tmp 26)⟩])))))))
 (.seq (.reg [
    ⟨(some 2), none, .mov (.const (.bool true))⟩])
 (.ret)))))⟩
theorem st64 : stF Try.prog qt 64 = some il64 := by kernel_rfl
def body64_0 : IL := .seq (.reg [
    ⟨(some 12), none, .bin .lss (.tmp 11) (.tmp 10)⟩])
 (.seq (.ite (.tmp 12)
    (.skip)
    (.exit 0))
 (.seq (.block 1
    (.seq (.reg [
       ⟨(some 13), none, .iadr 7 none (.tmp 9) (.tmp 11)⟩,
       ⟨(some 14), none, .load (.tmp 13) (some 7)⟩,
       ⟨(some 5), none, .alloc [(.int .i64 0), (.int .i64 0), (.int .i64 0), (.int .i64 0), (.int .i64 0), (.int .i64 0), (.bool false)]⟩,
       ⟨none, none, .store (.tmp 5) (.tmp 14) 7⟩])
    (.seq (.seq (.reg [
        ⟨(some 15), none, .fadr 0 (.tmp 5)⟩,
        ⟨(some 16), none, .load (.tmp 15) none⟩,
        ⟨(some 17), none, .mov (.tmp 3)⟩,
        ⟨(some 18), none, .bin .leq (.tmp 16) (.tmp 17)⟩,
        ⟨(some 19), none, .mov (.tmp 18)⟩,
        ⟨(some 20), (some (19, false)), .load (.tmp 5) (some 7)⟩,
        ⟨(some 21), (some (19, false)), .call 91 [(.tmp 20)]⟩,
        ⟨(some 22), (some (19, false)), .un .not (.tmp 21)⟩,
        ⟨(some 23), none, .pick (.tmp 19) (.const (.bool true)) (.tmp 22)⟩])
     (.ite (.tmp 23)
       (.seq (.reg [
          ⟨(some 2), none, .mov (.const (.bool false))⟩])
       (.ret))
       (.skip)))
    (.reg [
      ⟨(some 24), none, .fadr 0 (.tmp 5)⟩,
      ⟨(some 25), none, .load (.tmp 24) none⟩,
      ⟨(some 3), none, .mov (.tmp 25)⟩]))))
 (.reg [
   ⟨(some 26), none, .bin .add (.tmp 11) (.const (.int .i64 1))⟩,
   ⟨(some 11), none, .mov (.tmp 26)⟩])))
def hn64y (s : Option Addr) (n c : Nat) (last i x0 x1 x2 x3 x4 x5 : Int) (xb : Bool) (b1 o1 : Nat) (H J : Heap) : Hs := (.sym (.pur 22000013 (.pointer (some ⟨b1, o1, none⟩)) (.bas 7000014 (.agg ⟨[(.int .i64 x0), (.int .i64 x1), (.int .i64 x2), (.int .i64 x3), (.int .i64 x4), (.int .i64 x5), (.bool xb)]⟩) (.join 4 (.con (.con (.con (.con .nil)))) (.con (.con (.con (.con .nil)))) (.yes .nil)))) .nil)
theorem tree64y (s : Option Addr) (n c : Nat) (last i x0 x1 x2 x3 x4 x5 : Int) (xb : Bool) (b1 o1 : Nat) (H J : Heap) : pieceS tblT (gE 0) (cE 0) 100 (fun i => exL i body64_0 || inL [2] i) body64_0 (hn64y s n c last i x0 x1 x2 x3 x4 x5 xb b1 o1 H J) (frS 27 [(2, (sB false)), (3, (sI last)), (9, (.raw (.slice s n c))), (10, (sI (n : Int))), (11, (sI i))]) [.seg H, .seg J] =
(.br (decide (i < (n : Int)))
 (.claim (opA (Plain.env tblT (gE 0)) (.iadr 7 none (.const (.slice s n c)) (.const (.int .i64 i))) [] [] = some ((.pointer (some ⟨b1, o1, none⟩)), []))
 (.claim (opA (Plain.env tblT (gE 0)) (.load (.const (.pointer (some ⟨b1, o1, none⟩))) (some 7)) [] H = some ((.agg ⟨[(.int .i64 x0), (.int .i64 x1), (.int .i64 x2), (.int .i64 x3), (.int .i64 x4), (.int .i64 x5), (.bool xb)]⟩), H))
 (.req (bif (decide (x0 ≤ last)) then true else true) (.req (bif (decide (x0 ≤ last)) then true else (!(lineB ⟨x0, x1, x2, x3, x4, x5, xb⟩))) (.ret .ret (frS 27 [(2, (sB false)), (3, (sI last)), (9, (.raw (.slice s n c))), (10, (sI (n : Int))), (11, (sI i))]) [.seg H, .seg J, .blk .fix [(sI x0), (sI x1), (sI x2), (sI x3), (sI x4), (sI x5), (sB xb)]])))))
 (.ret (.exit 0) (frS 27 [(2, (sB false)), (3, (sI last)), (9, (.raw (.slice s n c))), (10, (sI (n : Int))), (11, (sI i))]) [.seg H, .seg J])) := by kernel_rfl
def hn64n (s : Option Addr) (n c : Nat) (last i x0 x1 x2 x3 x4 x5 : Int) (xb : Bool) (b1 o1 : Nat) (H J : Heap) : Hs := (.sym (.pur 22000013 (.pointer (some ⟨b1, o1, none⟩)) (.bas 7000014 (.agg ⟨[(.int .i64 x0), (.int .i64 x1), (.int .i64 x2), (.int .i64 x3), (.int .i64 x4), (.int .i64 x5), (.bool xb)]⟩) (.join 4 (.con (.con (.con (.con .nil)))) (.con (.con (.con (.con .nil)))) (.no .nil)))) .nil)
theorem tree64n (s : Option Addr) (n c : Nat) (last i x0 x1 x2 x3 x4 x5 : Int) (xb : Bool) (b1 o1 : Nat) (H J : Heap) : pieceS tblT (gE 0) (cE 0) 100 (fun i => exL i body64_0 || inL [2] i) body64_0 (hn64n s n c last i x0 x1 x2 x3 x4 x5 xb b1 o1 H J) (frS 27 [(2, (sB false)), (3, (sI last)), (9, (.raw (.slice s n c))), (10, (sI (n : Int))), (11, (sI i))]) [.seg H, .seg J] =
(.br (decide (i < (n : Int)))
 (.claim (opA (Plain.env tblT (gE 0)) (.iadr 7 none (.const (.slice s n c)) (.const (.int .i64 i))) [] [] = some ((.pointer (some ⟨b1, o1, none⟩)), []))
 (.claim (opA (Plain.env tblT (gE 0)) (.load (.const (.pointer (some ⟨b1, o1, none⟩))) (some 7)) [] H = some ((.agg ⟨[(.int .i64 x0), (.int .i64 x1), (.int .i64 x2), (.int .i64 x3), (.int .i64 x4), (.int .i64 x5), (.bool xb)]⟩), H))
 (.req (bif (decide (x0 ≤ last)) then true else true) (.req (!(bif (decide (x0 ≤ last)) then true else (!(lineB ⟨x0, x1, x2, x3, x4, x5, xb⟩)))) (.ret .normal (frS 27 [(2, (sB false)), (3, (sI x0)), (9, (.raw (.slice s n c))), (10, (sI (n : Int))), (11, (sI (IntKind.wrap .i64 (i + 1))))]) [.seg H, .seg J, .blk .fix [(sI x0), (sI x1), (sI x2), (sI x3), (sI x4), (sI x5), (sB xb)]])))))
 (.ret (.exit 0) (frS 27 [(2, (sB false)), (3, (sI last)), (9, (.raw (.slice s n c))), (10, (sI (n : Int))), (11, (sI i))]) [.seg H, .seg J])) := by kernel_rfl
def hn64w (s : Option Addr) (n c : Nat) (q : Bool) (H Y : Heap) : Hs := (.no (.lp2 0 [2] q (frS 27 [(2, (sB false))]) ⟨[], [.seg Y]⟩ (frS 27 [(2, (sB false))]) ⟨[], [.seg Y]⟩ .nil .nil))
theorem tree64w (s : Option Addr) (n c : Nat) (q : Bool) (H Y : Heap) : fnS tblT (gE 0) (cE 0) 100 il64 (hn64w s n c q H Y) [(.raw (.slice s n c))] [.seg H] =
(.req (!(decide ((n : Int) > 64))) (.claim (Wp (Plain.env tblT (gE 0)) (inL [2]) (.block 0 (.loop body64_0)) (denF [.seg H] (frS 27 [(2, (sB false)), (3, (sI 0)), (9, (.raw (.slice s n c))), (10, (sI (n : Int))), (11, (sI 0))])) (denH [.seg H]) fun e_ s_ h_ => if q then e_ = .normal ∧ s_ = denF [.seg H, .seg Y] (frS 27 [(2, (sB false))]) ∧ h_ = denH [.seg H, .seg Y] else e_ = .ret ∧ s_ = denF [.seg H, .seg Y] (frS 27 [(2, (sB false))]) ∧ h_ = denH [.seg H, .seg Y])
 (.br q
 (.ret .ret [(sB true)] [.seg H, .seg Y])
 (.ret .ret [(sB false)] [.seg H, .seg Y])))) := by kernel_rfl
def hn64g (s : Option Addr) (n c : Nat) (H : Heap) : Hs := (.yes .nil)
theorem tree64g (s : Option Addr) (n c : Nat) (H : Heap) : fnS tblT (gE 0) (cE 0) 100 il64 (hn64g s n c H) [(.raw (.slice s n c))] [.seg H] =
(.req (decide ((n : Int) > 64)) (.ret .ret [(sB false)] [.seg H])) := by kernel_rfl
theorem loop {H : Heap} {s : Option Addr} {c : Nat} {l : List R7} (hs : RowsW 7 H (.slice s l.length c) (l.map e7)) (hn : l.length ≤ 64) :
    Wp (Plain.env tblT (gE 0)) (inL [2]) (.block 0 (.loop body64_0)) (denF [.seg H] (frS 27 [(2, (sB false)), (3, (sI 0)), (9, rS s l.length c), (10, (sI (l.length : Int))), (11, (sI 0))])) (denH [.seg H]) fun e t h => ∃ Y, h = denH [.seg H, .seg Y] ∧ t = denF [.seg H, .seg Y] (frS 27 [(2, (sB false))]) ∧ if rtF 0 l then e = .normal else e = .ret := by
  refine Wp.bl (fun m t h => ∃ (i : Nat) (last : Int) (J : Heap), i + m = l.length ∧ t = denF [.seg H, .seg J] (frS 27 [(2, (sB false)), (3, (sI last)), (9, rS s l.length c), (10, (sI (l.length : Int))), (11, (sI i))]) ∧ h = denH [.seg H, .seg J] ∧ rtF 0 l = rtF last (l.drop i)) ?_ l.length _ _ ⟨0, 0, [], by omega, by show denF _ _ = denF _ _; kernel_rfl, by simp [denH, denL, It.den], rfl⟩
  rintro m t h ⟨i, last, J, hi, rfl, rfl, hr⟩
  by_cases hlt : i < l.length
  · obtain ⟨x, hx⟩ := getE hlt
    obtain ⟨b1, o1, r1⟩ := hs.rowM hx
    have hd : l.drop i = x :: l.drop (i + 1) := by
      rw [List.drop_eq_getElem_cons hlt]
      rw [List.getElem?_eq_getElem hlt] at hx
      cases hx; rfl
    rw [hd] at hr
    by_cases hq : (bif decide (x.a ≤ last) then true else !(lineB x)) = true
    · refine Wp.tree (cE_ok 0) (tree64y s l.length c last i x.a x.b x.c x.d x.e x.f x.g b1 o1 H J) ⟨rfl, rfl⟩ ⟨fun _ => ⟨r1.ptr _ _, r1.all _, bif_tt _, hq, end_ret ⟨J ++ [some ⟨.fix, e7 x⟩], ?_, ?_, ?_⟩⟩, fun q => by simp at q; omega⟩
      · simp [denH, denL, It.den, den0, e7]
      · show denF _ _ = denF _ _; kernel_rfl
      · have : rtF 0 l = false := by
          rw [hr]
          simp only [rtF]
          rw [L91.bif_t] at hq
          split
          · rfl
          · rename_i h1
            have : lineB x = false := by simpa [h1] using hq
            rw [this]; rfl
        rw [this]; simp
    · have hq' : (!(bif decide (x.a ≤ last) then true else !(lineB x))) = true := by simpa using hq
      refine Wp.tree (cE_ok 0) (tree64n s l.length c last i x.a x.b x.c x.d x.e x.f x.g b1 o1 H J) ⟨rfl, rfl⟩ ⟨fun _ => ⟨r1.ptr _ _, r1.all _, bif_tt _, hq', end_next (m - 1) (by omega) ⟨i + 1, x.a, J ++ [some ⟨.fix, e7 x⟩], by omega, ?_, ?_, ?_⟩⟩, fun q => by simp at q; omega⟩
      · rw [wrap64 (by omega) (by omega)]; show denF _ _ = denF _ _; kernel_rfl
      · simp [denH, denL, It.den, den0, e7]
      · rw [hr]
        simp only [rtF]
        have hq2 := Bool.eq_false_iff.2 hq
        rw [L91.bif_f] at hq2
        rw [if_neg (by simpa using hq2.1), if_pos (by simpa using hq2.2)]
  · have hil : i = l.length := by omega
    refine Wp.tree (cE_ok 0) (tree64n s l.length c last i 0 0 0 0 0 0 false 0 0 H J) ⟨rfl, rfl⟩ ⟨fun q => by simp at q; omega, fun _ => end_exit ⟨J, rfl, by show denF _ _ = denF _ _; kernel_rfl, ?_⟩⟩
    have : rtF 0 l = true := by rw [hr, hil, List.drop_length]; rfl
    rw [this]; rfl
theorem sim {H : Heap} {s : Value} {l : List R7} (hs : RowsW 7 H s (l.map e7)) (hn : l.length ≤ 140737488355328) : Sim Try.prog 64 [s] H fun v h' => v = .bool (tapeB l) ∧ h' = H := by
  obtain ⟨sa, sc, rfl⟩ := hs.slcM
  refine (Sim.plain (R := fun v => v = .bool (tapeB l)) ?_ (fun v hv => by subst hv; rfl)).mono fun v h' q => q
  by_cases hg : 64 < l.length
  · have hd : tapeB l = false := by unfold tapeB; rw [if_pos hg]
    have := fnS_tree (Q := fun v h' => v = .bool (tapeB l) ∧ ∃ X, h' = H ++ X) mixed (gE_ok 0) (gE_q 0) (cE_ok 0) st64 (tree64g sa l.length sc H) ⟨rfl, rfl⟩ ⟨by simp; omega, by rw [hd]; rfl, [], by simp [denH, denL, It.den]⟩
    simpa [denH, denL, It.den, denF, denV, denA, den0] using this
  · have hd : tapeB l = rtF 0 l := by unfold tapeB; rw [if_neg hg]
    obtain ⟨e, t1, h1, ⟨Y, rfl, rfl, he⟩, w⟩ := (loop hs (by omega)).exact
    have := fnS_tree (Q := fun v h' => v = .bool (tapeB l) ∧ ∃ X, h' = H ++ X) mixed (gE_ok 0) (gE_q 0) (cE_ok 0) st64 (tree64w sa l.length sc (rtF 0 l) H Y) ⟨rfl, rfl⟩ ⟨by simp; omega, w.mono fun e1 s1 h1 ⟨q1, q2, q3⟩ => by
        subst q1
        split
        · rename_i hq; rw [hq] at he; exact ⟨he, q2, q3⟩
        · rename_i hq; rw [if_neg hq] at he; exact ⟨he, q2, q3⟩, fun q => ⟨by rw [hd, q]; rfl, Y, by simp [denH, denL, It.den]⟩, fun q => ⟨by rw [hd, q]; rfl, Y, by simp [denH, denL, It.den]⟩⟩
    simpa [denH, denL, It.den, denF, denV, denA, den0] using this
def pre (l : List R7) (args : List Value) (h : Heap) : Prop := ∃ s, args = [s] ∧ RowsW 7 h s (l.map e7) ∧ l.length ≤ 140737488355328
def res (l : List R7) (h : Heap) : Value × Heap := (.bool (tapeB l), h)
theorem summ : Summ Try.prog 64 (smry pre res) := smry_ok fun l args h ⟨s, e, hs, hn⟩ => by subst e; exact sim hs hn
theorem call {h : Heap} {s : Value} {l : List R7} (hs : RowsW 7 h s (l.map e7)) (hn : l.length ≤ 140737488355328) : smry pre res [s] h = some (.bool (tapeB l), h) :=
  smry_some ⟨s, rfl, hs, hn⟩ fun y ⟨s', e, hs', _⟩ => by
    simp only [List.cons.injEq, and_true] at e
    subst e
    rw [map_inj e7_1 (hs.uniq hs')]
end R64
end TP
end Go.Proofs.Ytgdojnamjkhknaa
