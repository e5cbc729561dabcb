/-
  The law WordOrder: bytes of ints put together; their order.
-/
import Derived.Test.YtgdojnamjkhknaaWPl
import Derived.Test.YtgdojnamjkhknaaSam
import Derived.Test.YtgdojnamjkhknaaWRn
namespace Go.Proofs.Ytgdojnamjkhknaa
open Go.Am
set_option linter.all false
set_option maxRecDepth 100000
theorem st30 : stF Try.prog qt 30 = some ilWithin := by kernel_rfl
namespace WO
open WB (byt wd useB callB preB resB)
def tbl : Plain := [(3, WR.sRuns), (30, sWithin)]
theorem tbl_ok : PlainOk Try.prog tbl := .cons (WR.tbl_ok 3) (.cons (within_ok mixed st30) .nil)
noncomputable def gK : Env := fun f => match f with
  | 23 => smry preB resB
  | 27 => smry (preSame 1 br) resSame
  | _ => fun _ _ => none
theorem gK_ok : EnvOk Try.prog gK := fun f => by
  unfold gK
  split
  · exact WB.summB
  · exact S27.sim
  · exact fun args h v h' e => by cases e
theorem gK_q : QuietEnv qt gK := fun f args h v h' hf e => by cases hf
noncomputable abbrev gE (k : Nat) : Env := inE tbl [] k gK
noncomputable abbrev cE (k : Nat) : CallS := callS tbl [] gK 100 k
theorem gE_q (k : Nat) : QuietEnv qt (Plain.env tbl (gE k)) := Plain.quiet (inE_quiet gK_q (fun f F h => by cases h) k)
theorem gE_ok (k : Nat) : EnvOk Try.prog (Plain.env tbl (gE k)) := Plain.ok tbl_ok (inE_ok (qt := qt) mixed tbl_ok .nil (fun f F h => by cases h) gK_ok gK_q k)
theorem cE_ok (k : Nat) : CallOk (Plain.env tbl (gE k)) (cE k) := callS_ok k
/-- cascade/cascadelaw12.WordOrder -/
def il5 : FnIL := ⟨87, [.tmp 8],
 .seq (.reg [
    ⟨(some 8), none, .mov (.const (.bool false))⟩])
 (.seq (.dreg [
    ⟨(some 18), none, .mov (.tmp 0)⟩,
    ⟨(some 19), none, .mov (.tmp 0)⟩,
    ⟨(some 20), none, .len (.tmp 19)⟩,
    ⟨(some 21), none, .mn (.tmp 20) (.const (.int .i64 12))⟩,
    ⟨(some 22), none, .slice 1 (.tmp 18) none (some (.tmp 21)) none⟩,
    ⟨(some 23), none, .mov (.tmp 1)⟩,
    ⟨(some 24), none, .mov (.tmp 1)⟩,
    ⟨(some 25), none, .len (.tmp 24)⟩,
    ⟨(some 26), none, .mn (.tmp 25) (.const (.int .i64 12))⟩,
    ⟨(some 27), none, .slice 1 (.tmp 23) none (some (.tmp 26)) none⟩,
    ⟨(some 9), none, .mov (.tmp 22)⟩,
    ⟨(some 10), none, .mov (.tmp 27)⟩] [])
 (.seq (.reg [
    ⟨(some 28), none, .mov (.tmp 9)⟩,
    ⟨(some 29), none, .call 23 [(.tmp 28)]⟩,
    ⟨(some 30), none, .mov (.tmp 10)⟩,
    ⟨(some 31), none, .call 23 [(.tmp 30)]⟩,
    ⟨(some 11), none, .mov (.tmp 29)⟩,
    ⟨(some 12), none, .mov (.tmp 31)⟩])
 (.seq (.reg [
    ⟨(some 32), none, .mkrow [] 0 []⟩,
    ⟨(some 33), none, .mov (.tmp 9)⟩,
    ⟨(some 34), none, .append 1 8 (.tmp 32) (.tmp 33)⟩,
    ⟨(some 35), none, .mov (.tmp 10)⟩,
    ⟨(some 36), none, .append 1 8 (.tmp 34) (.tmp 35)⟩,
    ⟨(some 13), none, .mov (.tmp 36)⟩])
 (.seq (.seq (.reg [
     ⟨(some 37), none, .mov (.tmp 13)⟩,
     ⟨(some 38), none, .call 23 [(.tmp 37)]⟩,
     ⟨(some 39), none, .mkrow [] 0 []⟩,
     ⟨(some 40), none, .mov (.tmp 11)⟩,
     ⟨(some 41), none, .append 1 1 (.tmp 39) (.tmp 40)⟩,
     ⟨(some 42), none, .mov (.tmp 12)⟩,
     ⟨(some 43), none, .append 1 1 (.tmp 41) (.tmp 42)⟩,
     ⟨(some 44), none, .call 27 [(.tmp 38), (.tmp 43)]⟩,
     ⟨(some 45), none, .un .not (.tmp 44)⟩])
  (.ite (.tmp 45)
    (.seq (.reg [
       ⟨(some 8), none, .mov (.const (.bool false))⟩])
    (.ret))
    (.skip)))
 (.seq (.reg [
    ⟨(some 46), none, .mov (.tmp 2)⟩,
    ⟨(some 47), none, .call 30 [(.tmp 46), (.const (.int .i64 0)), (.const (.int .i64 4611686018427387904))]⟩,
    ⟨(some 48), none, .mov (.tmp 3)⟩,
    ⟨(some 49), none, .call 30 [(.tmp 48), (.const (.int .i64 0)), (.const (.int .i64 4611686018427387904))]⟩,
    ⟨(some 14), none, .mov (.tmp 47)⟩,
    ⟨(some 15), none, .mov (.tmp 49)⟩])
 (.seq (.dreg [
    ⟨(some 50), none, .mov (.tmp 14)⟩,
    ⟨(some 51), none, .mkrow [(.int .i64 0)] 1 [(0, 1, (.tmp 50))]⟩,
    ⟨(some 52), none, .call 23 [(.tmp 51)]⟩,
    ⟨(some 53), none, .b2s (.tmp 52)⟩,
    ⟨(some 54), none, .mov (.tmp 15)⟩,
    ⟨(some 55), none, .mkrow [(.int .i64 0)] 1 [(0, 1, (.tmp 54))]⟩,
    ⟨(some 56), none, .call 23 [(.tmp 55)]⟩,
    ⟨(some 57), none, .b2s (.tmp 56)⟩,
    ⟨(some 16), none, .mov (.tmp 53)⟩,
    ⟨(some 17), none, .mov (.tmp 57)⟩] [(3, 6)])
 (.seq (.reg [
    ⟨(some 58), none, .mov (.tmp 16)⟩,
    ⟨(some 59), none, .slen (.tmp 58)⟩,
    ⟨(some 60), none, .bin .eql (.tmp 59) (.const (.int .i64 8))⟩,
    ⟨(some 61), none, .mov (.tmp 60)⟩,
    ⟨(some 62), (some (61, true)), .mov (.tmp 14)⟩,
    ⟨(some 63), (some (61, true)), .mov (.tmp 15)⟩,
    ⟨(some 64), (some (61, true)), .bin .lss (.tmp 62) (.tmp 63)⟩,
    ⟨(some 65), (some (61, true)), .mov (.tmp 16)⟩,
    ⟨(some 66), (some (61, true)), .mov (.tmp 17)⟩,
    ⟨(some 67), (some (61, true)), .bin .lss (.tmp 65) (.tmp 66)⟩,
    ⟨(some 68), (some (61, true)), .eqv false .bool (.tmp 64) (.tmp 67)⟩,
    ⟨(some 69), none, .pick (.tmp 61) (.tmp 68) (.const (.bool false))⟩,
    ⟨(some 70), none, .mov (.tmp 69)⟩,
    ⟨(some 71), (some (70, true)), .mov (.tmp 14)⟩,
    ⟨(some 72), (some (70, true)), .mov (.tmp 15)⟩,
    ⟨(some 73), (some (70, true)), .bin .eql (.tmp 71) (.tmp 72)⟩,
    ⟨(some 74), (some (70, true)), .mov (.tmp 16)⟩,
    ⟨(some 75), (some (70, true)), .mov (.tmp 17)⟩,
    ⟨(some 76), (some (70, true)), .bin .eql (.tmp 74) (.tmp 75)⟩,
    ⟨(some 77), (some (70, true)), .eqv false .bool (.tmp 73) (.tmp 76)⟩,
    ⟨(some 78), none, .pick (.tmp 70) (.tmp 77) (.const (.bool false))⟩,
    ⟨(some 79), none, .mov (.tmp 78)⟩,
    ⟨(some 80), (some (79, true)), .call 23 [(.const (.slice none 0 0))]⟩,
    ⟨(some 81), (some (79, true)), .len (.tmp 80)⟩,
    ⟨(some 82), (some (79, true)), .bin .eql (.tmp 81) (.const (.int .i64 0))⟩,
    ⟨(some 83), none, .pick (.tmp 79) (.tmp 82) (.const (.bool false))⟩,
    ⟨(some 84), none, .mov (.tmp 83)⟩,
    ⟨(some 85), (some (84, true)), .call 3 []⟩,
    ⟨(some 86), none, .pick (.tmp 84) (.tmp 85) (.const (.bool false))⟩,
    ⟨(some 8), none, .mov (.tmp 86)⟩])
 (.ret))))))))⟩
theorem st5 : stF Try.prog qt 5 = some il5 := by kernel_rfl
def hn5 (al am ax ay ap aq a1 a2 ab a3 a4 au av : Option Addr) (nl nm nx ny np nq n1 n2 nb n3 n4 nu nv cl cm cx cy cp cq c1 c2 cb c3 c4 cu cv : Nat) (a b k m : Int) (u v : ByteArray) (e1 e2 : Option Blk) (H P Q X1 X2 X3 B Y1 Y2 Y3 U V : Heap) : Hs := (.pur 32000021 (.int .i64 k) (.bas 17000022 (.slice ax nx cx) (.pur 32000026 (.int .i64 m) (.bas 17000027 (.slice ay ny cy) (.use 26000029 (.raw (.slice ap np cp)) ⟨[], [.seg P]⟩ (.use 26000031 (.raw (.slice aq nq cq)) ⟨[], [.seg Q]⟩ (.use 30000034 (.raw (.slice a1 n1 c1)) ⟨[], [.seg X1]⟩ (.use 30000036 (.raw (.slice a2 n2 c2)) ⟨[(3, .raw e1), (4, .seg X2)], [.seg X3]⟩ (.use 26000038 (.raw (.slice ab nb cb)) ⟨[], [.seg B]⟩ (.use 30000041 (.raw (.slice a3 n3 c3)) ⟨[], [.seg Y1]⟩ (.use 30000043 (.raw (.slice a4 n4 c4)) ⟨[(7, .raw e2), (8, .seg Y2)], [.seg Y3]⟩ (.use 26000044 (sB true) ⟨[], []⟩ (.con (.crs [none, none, some ((.raw (.slice au nu cu)), ⟨[], [.seg U]⟩), some ((.raw (.string u)), ⟨[], []⟩), none, none, some ((.raw (.slice av nv cv)), ⟨[], [.seg V]⟩), some ((.raw (.string v)), ⟨[], []⟩), none, none] (.yes (.con (.con (.con (.con (.con (.con (.con (.yes (.con (.con (.con (.con (.con (.con (.con (.yes (.use 26000080 (.raw (.slice none 0 0)) ⟨[], []⟩ (.con (.con (.con (.con (.con .nil)))))))))))))))))))))))))))))))))))))
theorem tree5 (al am ax ay ap aq a1 a2 ab a3 a4 au av : Option Addr) (nl nm nx ny np nq n1 n2 nb n3 n4 nu nv cl cm cx cy cp cq c1 c2 cb c3 c4 cu cv : Nat) (a b k m : Int) (u v : ByteArray) (e1 e2 : Option Blk) (H P Q X1 X2 X3 B Y1 Y2 Y3 U V : Heap) : fnS tbl (gE 0) (cE 0) 200 il5 (hn5 al am ax ay ap aq a1 a2 ab a3 a4 au av nl nm nx ny np nq n1 n2 nb n3 n4 nu nv cl cm cx cy cp cq c1 c2 cb c3 c4 cu cv a b k m u v e1 e2 H P Q X1 X2 X3 B Y1 Y2 Y3 U V) [(.raw (.slice al nl cl)), (.raw (.slice am nm cm)), (sI a), (sI b)] [.seg H] =
(.req true (.claim (opA (Plain.env tbl (gE 0)) (.mn (.const (.int .i64 (nl : Int))) (.const (.int .i64 12))) [] [] = some ((.int .i64 k), []))
 (.claim (opA (Plain.env tbl (gE 0)) (.slice 1 (.const (.slice al nl cl)) none (some (.const (.int .i64 k))) none) [] H = some ((.slice ax nx cx), H))
 (.claim (opA (Plain.env tbl (gE 0)) (.mn (.const (.int .i64 (nm : Int))) (.const (.int .i64 12))) [] [] = some ((.int .i64 m), []))
 (.claim (opA (Plain.env tbl (gE 0)) (.slice 1 (.const (.slice am nm cm)) none (some (.const (.int .i64 m))) none) [] H = some ((.slice ay ny cy), H))
 (.claim (opA (Plain.env tbl (gE 0)) (.call 23 [(.const (.slice ax nx cx))]) [] (denH [.seg H]) = some ((.slice ap np cp), denH [.seg H, .seg P]))
 (.claim (opA (Plain.env tbl (gE 0)) (.call 23 [(.const (.slice ay ny cy))]) [] (denH [.seg H, .seg P]) = some ((.slice aq nq cq), denH [.seg H, .seg P, .seg Q]))
 (.claim (opA (Plain.env tbl (gE 0)) (.append 1 8 (.const (denV (ofs [.seg H, .seg P, .seg Q, .blk .fix []]) (.sl 3 0 0 0))) (.const (.slice ax nx cx))) [] (denH [.seg H, .seg P, .seg Q, .blk .fix []]) = some ((.slice a1 n1 c1), denH [.seg H, .seg P, .seg Q, .blk .fix [], .seg X1]))
 (.claim (List.length X2 = List.length X1) (.claim (opA (Plain.env tbl (gE 0)) (.append 1 8 (.const (.slice a1 n1 c1)) (.const (.slice ay ny cy))) [] (denH [.seg H, .seg P, .seg Q, .blk .fix [], .seg X1]) = some ((.slice a2 n2 c2), denH [.seg H, .seg P, .seg Q, .raw e1, .seg X2, .seg X3]))
 (.claim (opA (Plain.env tbl (gE 0)) (.call 23 [(.const (.slice a2 n2 c2))]) [] (denH [.seg H, .seg P, .seg Q, .raw e1, .seg X2, .seg X3]) = some ((.slice ab nb cb), denH [.seg H, .seg P, .seg Q, .raw e1, .seg X2, .seg X3, .seg B]))
 (.claim (opA (Plain.env tbl (gE 0)) (.append 1 1 (.const (denV (ofs [.seg H, .seg P, .seg Q, .raw e1, .seg X2, .seg X3, .seg B, .blk .fix []]) (.sl 7 0 0 0))) (.const (.slice ap np cp))) [] (denH [.seg H, .seg P, .seg Q, .raw e1, .seg X2, .seg X3, .seg B, .blk .fix []]) = some ((.slice a3 n3 c3), denH [.seg H, .seg P, .seg Q, .raw e1, .seg X2, .seg X3, .seg B, .blk .fix [], .seg Y1]))
 (.claim (List.length Y2 = List.length Y1) (.claim (opA (Plain.env tbl (gE 0)) (.append 1 1 (.const (.slice a3 n3 c3)) (.const (.slice aq nq cq))) [] (denH [.seg H, .seg P, .seg Q, .raw e1, .seg X2, .seg X3, .seg B, .blk .fix [], .seg Y1]) = some ((.slice a4 n4 c4), denH [.seg H, .seg P, .seg Q, .raw e1, .seg X2, .seg X3, .seg B, .raw e2, .seg Y2, .seg Y3]))
 (.claim (opA (Plain.env tbl (gE 0)) (.call 27 [(.const (.slice ab nb cb)), (.const (.slice a4 n4 c4))]) [] (denH [.seg H, .seg P, .seg Q, .raw e1, .seg X2, .seg X3, .seg B, .raw e2, .seg Y2, .seg Y3]) = some ((.bool true), denH [.seg H, .seg P, .seg Q, .raw e1, .seg X2, .seg X3, .seg B, .raw e2, .seg Y2, .seg Y3]))
 (.req (preWithin 0 4611686018427387904) (.req (preWithin 0 4611686018427387904) (.req true (.req true (.claim (opA (Plain.env tbl (gE 0)) (.call 23 [(.const (denV (ofs [.seg H, .seg P, .seg Q, .raw e1, .seg X2, .seg X3, .seg B, .raw e2, .seg Y2, .seg Y3, .blk .fix [(sI (wn a 0 4611686018427387904))]]) (.sl 10 0 1 1)))]) [] (denH [.seg H, .seg P, .seg Q, .raw e1, .seg X2, .seg X3, .seg B, .raw e2, .seg Y2, .seg Y3, .blk .fix [(sI (wn a 0 4611686018427387904))]]) = some ((.slice au nu cu), denH [.seg H, .seg P, .seg Q, .raw e1, .seg X2, .seg X3, .seg B, .raw e2, .seg Y2, .seg Y3, .blk .fix [(sI (wn a 0 4611686018427387904))], .seg U]))
 (.claim (opA (Plain.env tbl (gE 0)) (.b2s (.const (.slice au nu cu))) [] (denH [.seg H, .seg P, .seg Q, .raw e1, .seg X2, .seg X3, .seg B, .raw e2, .seg Y2, .seg Y3, .blk .fix [(sI (wn a 0 4611686018427387904))], .seg U]) = some ((.string u), denH [.seg H, .seg P, .seg Q, .raw e1, .seg X2, .seg X3, .seg B, .raw e2, .seg Y2, .seg Y3, .blk .fix [(sI (wn a 0 4611686018427387904))], .seg U]))
 (.req true (.req true (.claim (opA (Plain.env tbl (gE 0)) (.call 23 [(.const (denV (ofs [.seg H, .seg P, .seg Q, .raw e1, .seg X2, .seg X3, .seg B, .raw e2, .seg Y2, .seg Y3, .blk .fix [(sI (wn a 0 4611686018427387904))], .seg U, .blk .fix [(sI (wn b 0 4611686018427387904))]]) (.sl 12 0 1 1)))]) [] (denH [.seg H, .seg P, .seg Q, .raw e1, .seg X2, .seg X3, .seg B, .raw e2, .seg Y2, .seg Y3, .blk .fix [(sI (wn a 0 4611686018427387904))], .seg U, .blk .fix [(sI (wn b 0 4611686018427387904))]]) = some ((.slice av nv cv), denH [.seg H, .seg P, .seg Q, .raw e1, .seg X2, .seg X3, .seg B, .raw e2, .seg Y2, .seg Y3, .blk .fix [(sI (wn a 0 4611686018427387904))], .seg U, .blk .fix [(sI (wn b 0 4611686018427387904))], .seg V]))
 (.claim (opA (Plain.env tbl (gE 0)) (.b2s (.const (.slice av nv cv))) [] (denH [.seg H, .seg P, .seg Q, .raw e1, .seg X2, .seg X3, .seg B, .raw e2, .seg Y2, .seg Y3, .blk .fix [(sI (wn a 0 4611686018427387904))], .seg U, .blk .fix [(sI (wn b 0 4611686018427387904))], .seg V]) = some ((.string v), denH [.seg H, .seg P, .seg Q, .raw e1, .seg X2, .seg X3, .seg B, .raw e2, .seg Y2, .seg Y3, .blk .fix [(sI (wn a 0 4611686018427387904))], .seg U, .blk .fix [(sI (wn b 0 4611686018427387904))], .seg V]))
 (.req true (.req true (.claim ((∃ h2, opA (Plain.env tbl (gE 0)) (.b2s (.const (.slice au nu cu))) [] (denH [.seg H, .seg P, .seg Q, .raw e1, .seg X2, .seg X3, .seg B, .raw e2, .seg Y2, .seg Y3, .blk .fix [(sI (wn a 0 4611686018427387904))], .seg U, .blk .fix [(sI (wn b 0 4611686018427387904))], .seg V]) = some ((.string u), h2)) ∧ eqV (.string u) (.string u) = true)
 (.req (((u).size : Int) == 8) (.req ((decide ((wn a 0 4611686018427387904) < (wn b 0 4611686018427387904))) == (Op.bytesLess (u).toList (v).toList)) (.req (((wn a 0 4611686018427387904) == (wn b 0 4611686018427387904)) == ((u).toList == (v).toList)) (.claim (opA (Plain.env tbl (gE 0)) (.call 23 [(.const (.slice none 0 0))]) [] (denH [.seg H, .seg P, .seg Q, .raw e1, .seg X2, .seg X3, .seg B, .raw e2, .seg Y2, .seg Y3, .blk .fix [(sI (wn a 0 4611686018427387904))], .seg U, .blk .fix [(sI (wn b 0 4611686018427387904))], .seg V]) = some ((.slice none 0 0), denH [.seg H, .seg P, .seg Q, .raw e1, .seg X2, .seg X3, .seg B, .raw e2, .seg Y2, .seg Y3, .blk .fix [(sI (wn a 0 4611686018427387904))], .seg U, .blk .fix [(sI (wn b 0 4611686018427387904))], .seg V]))
 (.req true (.ret .ret [(sB true)] [.seg H, .seg P, .seg Q, .raw e1, .seg X2, .seg X3, .seg B, .raw e2, .seg Y2, .seg Y3, .blk .fix [(sI (wn a 0 4611686018427387904))], .seg U, .blk .fix [(sI (wn b 0 4611686018427387904))], .seg V])))))))))))))))))))))))))))))))))) := by kernel_rfl
theorem call {f : Nat} {args : List Value} {h : Heap} {r : Value × Heap} (ht : tbl.find f args = none) (e : gK f args h = some r) : opA (Plain.env tbl (gE 0)) (.call f (args.map .const)) [] h = some r := opA_call ht e
theorem less_ok {c d : Int} (hc : 0 ≤ c ∧ c < 9223372036854775808) (hd : 0 ≤ d ∧ d < 9223372036854775808) : ((decide (c < d)) == (Op.bytesLess (WB.str (byt [c])).toList (WB.str (byt [d])).toList)) = true ∧ ((c == d) == ((WB.str (byt [c])).toList == (WB.str (byt [d])).toList)) = true := by
  have e : ∀ z : Int, byt [z] = wd z := fun z => by simp [byt]
  rw [e, e, WB.str, WB.str, WB.toList_eq, WB.toList_eq]
  have h1 := WB.less_val (a := wd c) (b := wd d) rfl (WB.wd_in c) (WB.wd_in d)
  have v1 := WB.wd_val c
  have v2 := WB.wd_val d
  rw [Int.emod_eq_of_lt hc.1 (by omega)] at v1
  rw [Int.emod_eq_of_lt hd.1 (by omega)] at v2
  rw [v1, v2] at h1
  constructor
  · by_cases q : c < d
    · simp [q, h1.2 q]
    · have : Op.bytesLess ((wd c).map WB.u8) ((wd d).map WB.u8) = false := by
        cases r : Op.bytesLess ((wd c).map WB.u8) ((wd d).map WB.u8) with
        | false => rfl
        | true => exact absurd (h1.1 r) q
      simp [q, this]
  · by_cases q : c = d
    · subst q; simp
    · have : (wd c).map WB.u8 ≠ (wd d).map WB.u8 := fun r => by
        have key : ∀ (a b : List Int), (∀ x ∈ a, InB x) → (∀ x ∈ b, InB x) → a.map WB.u8 = b.map WB.u8 → a = b := by
          intro a
          induction a with
          | nil => intro b _ _ h; cases b with
            | nil => rfl
            | cons => simp at h
          | cons x l ih => intro b ha hb h; cases b with
            | nil => simp at h
            | cons y m =>
              simp only [List.map_cons, List.cons.injEq] at h
              rw [(WB.u8_eq (ha x (by simp)) (hb y (by simp))).1 h.1, ih m (fun z hz => ha z (by simp [hz])) (fun z hz => hb z (by simp [hz])) h.2]
        have := congrArg WB.val (key _ _ (WB.wd_in c) (WB.wd_in d) r)
        rw [v1, v2] at this
        exact q this
      rw [show (c == d) = false from by simpa using q, show ((wd c).map WB.u8 == (wd d).map WB.u8) = false from by simpa using this]; rfl
theorem law {H : Heap} {l m : Value} {zs ms : List Int} {a b : Int} (hL : RowsW 1 H l (zs.map ir)) (hM : RowsW 1 H m (ms.map ir)) : Sim Try.prog 5 [l, m, .int .i64 a, .int .i64 b] H fun v _ => v = .bool true := by
  obtain ⟨al, cl, rfl⟩ := hL.slcM
  obtain ⟨am, cm, rfl⟩ := hM.slcM
  obtain ⟨x, hcx, hx⟩ := hL.cutM (lo := 0) (hi := min zs.length 12) (by omega) (by omega) none (some (.const (.int .i64 (min zs.length 12 : Nat)))) (.inl ⟨rfl, rfl⟩) (.inr rfl)
  obtain ⟨y, hcy, hy⟩ := hM.cutM (lo := 0) (hi := min ms.length 12) (by omega) (by omega) none (some (.const (.int .i64 (min ms.length 12 : Nat)))) (.inl ⟨rfl, rfl⟩) (.inr rfl)
  rw [List.drop_zero] at hx hy
  obtain ⟨xs, exs⟩ : ∃ xs, xs = zs.take (min zs.length 12) := ⟨_, rfl⟩
  obtain ⟨ys, eys⟩ : ∃ ys, ys = ms.take (min ms.length 12) := ⟨_, rfl⟩
  rw [← exs] at hx
  rw [← eys] at hy
  have nx : xs.length ≤ 12 := by rw [exs]; simp; omega
  have ny : ys.length ≤ 12 := by rw [eys]; simp; omega
  obtain ⟨ax, cx, rfl⟩ := hx.slcM
  obtain ⟨ay, cy, rfl⟩ := hy.slcM
  have lb := fun (l : List Int) => WB.byt_len l
  have hx0 : RowsW 1 (denH [.seg H]) (.slice ax xs.length cx) (xs.map ir) := by simpa [denH, denL, It.den] using hx
  have hy0 : RowsW 1 (denH [.seg H]) (.slice ay ys.length cy) (ys.map ir) := by simpa [denH, denL, It.den] using hy
  obtain ⟨ap, cp, Pp, eP, hP⟩ := useB (I := [.seg H]) rfl hx0 (by omega)
  obtain ⟨aq, cq, Q, eQ, hQ⟩ := useB (I := [.seg H, .seg Pp]) rfl (hy0.up rfl [.seg Pp]) (by omega)
  obtain ⟨a1, c1, X1, h1, l1⟩ := appNew (I := [.seg H, .seg Pp, .seg Q]) rfl (eby := 8) (hx0.up rfl [.seg Pp, .seg Q]) (ir_w _) (by decide) (by simp; omega) (by simp; omega)
  obtain ⟨a2, c2, e1, X2, X3, g2, h2, l2⟩ := appMore (I := [.seg H, .seg Pp, .seg Q]) rfl (eby := 8) l1 (hy0.up rfl [.seg Pp, .seg Q]) (ir_w _) (by decide) (by simp; omega) (by simp; omega)
  have hall := l2.rowsI (I := [.seg H, .seg Pp, .seg Q]) (K := [.raw e1, .seg X2, .seg X3]) rfl (by decide) (by simp [denL, It.den])
  rw [← List.map_append] at hall
  rw [List.length_map] at h1
  rw [List.length_map, List.length_map] at h2 hall
  obtain ⟨ab, cb, B, eB, hB⟩ := useB rfl hall (by simp; omega)
  obtain ⟨a3, c3, Y1, h3, l3⟩ := appNew (I := [.seg H, .seg Pp, .seg Q, .raw e1, .seg X2, .seg X3, .seg B]) rfl (eby := 1) (hP.up rfl [.seg Q, .raw e1, .seg X2, .seg X3, .seg B]) (br_w _) (by decide) (by simp [lb]; omega) (by simp [lb]; omega)
  obtain ⟨a4, c4, e2, Y2, Y3, g4, h4, l4⟩ := appMore (I := [.seg H, .seg Pp, .seg Q, .raw e1, .seg X2, .seg X3, .seg B]) rfl (eby := 1) l3 (hQ.up rfl [.raw e1, .seg X2, .seg X3, .seg B]) (br_w _) (by decide) (by simp [lb]; omega) (by simp [lb]; omega)
  have hpq := l4.rowsI (I := [.seg H, .seg Pp, .seg Q, .raw e1, .seg X2, .seg X3, .seg B]) (K := [.raw e2, .seg Y2, .seg Y3]) rfl (by decide) (by simp [denL, It.den])
  rw [← List.map_append] at hpq
  rw [List.length_map] at h3
  rw [List.length_map, List.length_map] at h4 hpq
  have hB2 := hB.up (I := [.seg H, .seg Pp, .seg Q, .raw e1, .seg X2, .seg X3, .seg B]) rfl [.raw e2, .seg Y2, .seg Y3]
  have esame : same (byt (xs ++ ys)) (byt xs ++ byt ys) = true := same_t (WB.byt_app xs ys)
  have eS := callSame br_1 hB2 hpq (by simp [lb]; omega)
  rw [esame] at eS
  obtain ⟨c, ec⟩ : ∃ c, c = wn a 0 4611686018427387904 := ⟨_, rfl⟩
  obtain ⟨d, ed⟩ : ∃ d, d = wn b 0 4611686018427387904 := ⟨_, rfl⟩
  have hc : 0 ≤ c ∧ c ≤ 4611686018427387904 := by rw [ec]; exact ⟨wn_lo (by decide), wn_hi (by decide)⟩
  have hd : 0 ≤ d ∧ d ≤ 4611686018427387904 := by rw [ed]; exact ⟨wn_lo (by decide), wn_hi (by decide)⟩
  let J : SH := [.seg H, .seg Pp, .seg Q, .raw e1, .seg X2, .seg X3, .seg B, .raw e2, .seg Y2, .seg Y3]
  have rc : RowsW 1 (denH (J ++ [.blk .fix [sI c]])) (denV (ofs (J ++ [.blk .fix [sI c]])) (.sl 10 0 1 1)) ([c].map ir) := row_lit rfl (by decide) (cs := [sI c]) rfl (fun g q => by cases q) rfl (ir_w _) rfl
  obtain ⟨au, cu, U, eU, hU⟩ := useB rfl rc (by simp)
  have rd : RowsW 1 (denH (J ++ [.blk .fix [sI c], .seg U, .blk .fix [sI d]])) (denV (ofs (J ++ [.blk .fix [sI c], .seg U, .blk .fix [sI d]])) (.sl 12 0 1 1)) ([d].map ir) := row_lit rfl (by decide) (cs := [sI d]) rfl (fun g q => by cases q) rfl (ir_w _) rfl
  obtain ⟨av, cv, V, eV, hV⟩ := useB rfl rd (by simp)
  have hU2 := hU.up rfl [.blk .fix [sI d], .seg V]
  have key := less_ok (c := c) (d := d) ⟨hc.1, by omega⟩ ⟨hd.1, by omega⟩
  have e0 := callB (h := denH (J ++ [.blk .fix [sI c], .seg U, .blk .fix [sI d], .seg V])) (s := .slice none 0 0) (zs := []) (.inl ⟨rfl, rfl⟩) (by simp)
  have t := tree5 al am ax ay ap aq (some a1) a2 ab (some a3) a4 au av zs.length ms.length xs.length ys.length (byt xs).length (byt ys).length xs.length (xs.length + ys.length) (byt (xs ++ ys)).length (byt xs).length ((byt xs).length + (byt ys).length) (byt [c]).length (byt [d]).length cl cm cx cy cp cq c1 c2 cb c3 c4 cu cv a b (min zs.length 12 : Nat) (min ms.length 12 : Nat) (WB.str (byt [c])) (WB.str (byt [d])) e1 e2 H Pp Q X1 X2 X3 B Y1 Y2 Y3 U V
  rw [← ec, ← ed] at t
  have := fnS_tree (Q := fun v _ => v = .bool true) mixed (gE_ok 0) (gE_q 0) (cE_ok 0) st5 t ⟨rfl, rfl⟩ ⟨rfl, mn_ok _ _ 12, hcx _, mn_ok _ _ 12, hcy _, call (args := [_]) rfl eP, call (args := [_]) rfl eQ, h1 _, g2, h2 _, call (args := [_]) rfl eB, h3 _, g4, h4 _, call (args := [_, _]) rfl eS, rfl, rfl, rfl, rfl,
    call (args := [_]) rfl eU, WB.b2s_ok hU (WB.byt_in _) _, rfl, rfl, call (args := [_]) rfl eV, WB.b2s_ok hV (WB.byt_in _) _, rfl, rfl, ⟨⟨_, WB.b2s_ok hU2 (WB.byt_in _) _⟩, by simp [eqV, eqAg, eq0]⟩, by rw [WB.str_size]; rfl, key.1, key.2, ?_, rfl, rfl⟩
  · simpa [denH, denL, It.den, denF, denV, denA, den0] using this
  · refine call (args := [_]) rfl (e0.trans ?_)
    simp only [resB, freshV, freshX, byt, List.flatMap_nil, List.map_nil, List.append_nil]
    rfl
theorem lawA (H : Heap) (xs : List Value) (h : F2 (fun p a => ArgOk H p.1 p.2 a) [(false, [LT.s 1 [.i .i64]]), (false, [LT.s 1 [.i .i64]]), (false, [LT.f (.i .i64)]), (false, [LT.f (.i .i64)])] xs) : Sim Try.prog 5 xs H fun v _ => v = .bool true := by
  cases h with
  | cons h0 h => cases h with
    | cons h1 h => cases h with
      | cons h2 h => cases h with
        | cons h3 h => cases h with
          | nil =>
            obtain ⟨zs, hz, _⟩ := lt_ints (arg_one h0)
            obtain ⟨ms, hm, _⟩ := lt_ints (arg_one h1)
            obtain ⟨a, rfl, _⟩ := lt_int (arg_one h2)
            obtain ⟨b, rfl, _⟩ := lt_int (arg_one h3)
            exact law hz hm
end WO
end Go.Proofs.Ytgdojnamjkhknaa
