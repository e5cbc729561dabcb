/-
  Tapes made of numbers: what a list picks; the lines of a tape.
-/
import Derived.Test.YtjnppjipoibbeaaPcTape
namespace Go.Proofs.Ytjnppjipoibbeaa.Tape
open Go.Am
set_option linter.all false
set_option maxRecDepth 100000
def nums (zs : List Int) : List (List Value) := zs.map fun z => [.int .i64 z]
def pickZ (zs : List Int) (i : Int) : Int := if zs = [] then 0 else zs.getD (i.tmod zs.length).toNat 0
/-- cascade/cascadekeep.pick -/
def il39 : FnIL := ⟨15, [.tmp 4],
  .seq (.reg [
     ⟨(some 4), none, .mov (.const (.int .i64 0))⟩])
  (.seq (.seq (.reg [
      ⟨(some 5), none, .mov (.tmp 0)⟩,
      ⟨(some 6), none, .len (.tmp 5)⟩,
      ⟨(some 7), none, .bin .eql (.tmp 6) (.const (.int .i64 0))⟩])
   (.ite (.tmp 7)
     (.seq (.reg [
        ⟨(some 4), none, .mov (.const (.int .i64 0))⟩])
     (.ret))
     (.skip)))
  (.seq (.reg [
     ⟨(some 8), none, .mov (.tmp 0)⟩,
     ⟨(some 9), none, .mov (.tmp 1)⟩,
     ⟨(some 10), none, .mov (.tmp 0)⟩,
     ⟨(some 11), none, .len (.tmp 10)⟩,
     ⟨(some 12), none, .bin .rem (.tmp 9) (.tmp 11)⟩,
     ⟨(some 13), none, .iadr 1 none (.tmp 8) (.tmp 12)⟩,
     ⟨(some 14), none, .load (.tmp 13) none⟩,
     ⟨(some 4), none, .mov (.tmp 14)⟩])
  (.ret)))⟩
theorem st39 : stF Try.prog qt 39 = some il39 := by kernel_rfl
def il39a : IL := .seq (.reg [
     ⟨(some 4), none, .mov (.const (.int .i64 0))⟩])
  (.seq (.seq (.reg [
      ⟨(some 5), none, .mov (.tmp 0)⟩,
      ⟨(some 6), none, .len (.tmp 5)⟩,
      ⟨(some 7), none, .bin .eql (.tmp 6) (.const (.int .i64 0))⟩])
   (.ite (.tmp 7)
     (.seq (.reg [
        ⟨(some 4), none, .mov (.const (.int .i64 0))⟩])
     (.ret))
     (.skip)))
  (.seq (.reg [
     ⟨(some 8), none, .mov (.tmp 0)⟩,
     ⟨(some 9), none, .mov (.tmp 1)⟩,
     ⟨(some 10), none, .mov (.tmp 0)⟩,
     ⟨(some 11), none, .len (.tmp 10)⟩,
     ⟨(some 12), none, .bin .rem (.tmp 9) (.tmp 11)⟩,
     ⟨(some 13), none, .iadr 1 none (.tmp 8) (.tmp 12)⟩,
     ⟨(some 14), none, .load (.tmp 13) none⟩,
     ⟨(some 4), none, .mov (.tmp 14)⟩])
  (.ret)))
def hn39a (s q : Value) (i n z : Int) (H : Heap) : Hj := (.use 6 (.int .i64 n) H (.sym .nil (.use 11 (.int .i64 n) H (.use 13 q H (.use 14 (.int .i64 z) H .nil)))))
theorem tree39a (s q : Value) (i n z : Int) (H : Heap) : pieceT tblW noEnv 100 (resLv [.tmp 4]) il39a (hn39a s q i n z H) (fr 15 [(0, s), (1, (.int .i64 i))]) H =
(.claim (opA (Plain.env tblW noEnv) (.len (.const s)) [] H = some ((.int .i64 n), H))
 (.br (n == 0)
 (.ret (pk .ret (fr 15 [(4, (.int .i64 0))])) H)
 (.claim (opA (Plain.env tblW noEnv) (.len (.const s)) [] H = some ((.int .i64 n), H))
 (.req (!(decide (n = 0))) (.claim (opA (Plain.env tblW noEnv) (.iadr 1 none (.const s) (.const (.int .i64 (Int.tmod i n)))) [] H = some (q, H))
 (.claim (opA (Plain.env tblW noEnv) (.load (.const q) none) [] H = some ((.int .i64 z), H))
 (.ret (pk .ret (fr 15 [(4, (.int .i64 z))])) H))))))) := by kernel_rfl

theorem pick_sim {h : Heap} {s : Value} {zs : List Int} {i : Int} (hs : RowsAt 1 h s (nums zs)) (hi : 0 ≤ i) : Sim Try.prog 39 [s, .int .i64 i] h fun v h' => v = .int .i64 (pickZ zs i) ∧ h' = h := by
  refine wp_sim' mixed (Plain.ok okW noEnv_ok) (Plain.quiet noEnv_quiet) st39 ?_
  have start : (([s, .int .i64 i] : List Value) ++ List.replicate (il39.ntmps - ([s, .int .i64 i] : List Value).length) undef) = fr 15 [(0, s), (1, .int .i64 i)] := by kernel_rfl
  rw [start, show il39.res = [.tmp 4] from rfl, show il39.body = il39a from rfl]
  have hlen : ∀ Γ, opA Γ (.len (.const s)) [] h = some ((.int .i64 zs.length), h) := fun Γ => by have := hs.len (Γ := Γ) (H := h); rw [nums, List.length_map] at this; exact this
  have fin : ∀ z : Int, z = pickZ zs i → outP (fun e s h' => (e = .normal ∨ e = .ret) ∧ ∃ v, resA s h' [.tmp 4] = some v ∧ v = .int .i64 (pickZ zs i) ∧ h' = h) (pk .ret (fr 15 [(4, (.int .i64 z))])) h := fun z hz => outP_pk ⟨.inr rfl, _, rfl, by rw [hz]; rfl, rfl⟩
  by_cases hz : zs = []
  · refine Wp.piece 100 (hn39a s (.bool false) i zs.length 0 h) ?_
    rw [tree39a]
    refine ⟨hlen _, fun _ => fin 0 (by simp [pickZ, hz]), fun q => ?_⟩
    simp [hz] at q
  · have hpos : 0 < zs.length := List.length_pos_iff.2 hz
    have hm0 : 0 ≤ i.tmod zs.length := Int.tmod_nonneg _ hi
    have hm1 : i.tmod zs.length < zs.length := Int.tmod_lt_of_pos _ (by omega)
    obtain ⟨k, hk⟩ : ∃ k : Nat, i.tmod zs.length = k := ⟨(i.tmod zs.length).toNat, by omega⟩
    have hkl : k < zs.length := by omega
    have hx : zs[k]? = some zs[k] := List.getElem?_eq_getElem hkl
    obtain ⟨q, q1, _, q3⟩ := hs.at_ (i := k) (row := [.int .i64 zs[k]]) (by rw [nums, List.getElem?_map, hx]; rfl)
    refine Wp.piece 100 (hn39a s q i zs.length zs[k] h) ?_
    rw [tree39a, hk]
    refine ⟨hlen _, fun q => ?_, fun _ => ⟨hlen _, ?_, q1 _ _, q3 _ _ rfl rfl, fin _ ?_⟩⟩
    · simp at q; exact absurd q hz
    · simp; exact hz
    · simp [pickZ, hz, hk, List.getD, hx]
def Qp (args : List Value) (h : Heap) (v : Value) (h' : Heap) : Prop := ∃ s i zs, args = [s, .int .i64 i] ∧ 0 ≤ i ∧ RowsAt 1 h s (nums zs) ∧ v = .int .i64 (pickZ zs i) ∧ h' = h
theorem nums_inj {a b : List Int} (h : nums a = nums b) : a = b := by
  unfold nums at h
  have e := congrArg (List.map fun r : List Value => match r with | [.int _ z] => z | _ => 0) h
  simpa [List.map_map, Function.comp_def] using e
noncomputable def gP : Env := fun f args h => if f = 39 then rel Qp args h else none
theorem gP_ok : EnvOk Try.prog gP := fun f => by
  by_cases hf : f = 39
  · subst hf
    intro args h v h' e
    have e' : rel Qp args h = some (v, h') := e
    refine rel_ok (fun args h v h' q => ?_) args h v h' e'
    obtain ⟨s, i, zs, rfl, hi, hs, rfl, rfl⟩ := q
    exact pick_sim hs hi
  · intro args h v h' e
    simp [gP, hf] at e
theorem gP_quiet {qt : List Nat} : QuietEnv qt gP := fun f args h v h' _ e => by
  unfold gP at e
  split at e
  · obtain ⟨s, i, zs, _, _, _, _, rfl⟩ := rel_of e
    rfl
  · cases e
theorem pick_at {H : Heap} {s : Value} {zs : List Int} {i : Int} (hs : RowsAt 1 H s (nums zs)) (hi : 0 ≤ i) : opA (Plain.env tblW gP) (.call 39 [(.const s), (.const (.int .i64 i))]) [] H = some ((.int .i64 (pickZ zs i)), H) := by
  show gP 39 [s, .int .i64 i] H = _
  show rel Qp [s, .int .i64 i] H = _
  refine rel_some ⟨s, i, zs, rfl, hi, hs, rfl, rfl⟩ fun v1 h1 ⟨s', i', zs', e, _, hs', q1, q2⟩ => ?_
  cases e
  rw [nums_inj (hs.uniq hs')]
  exact ⟨q1, q2⟩
/-! ### Lines -/
def an7 (x : Int) : Int := IntKind.wrap .i64 (BitVec.ofInt 64 x &&& BitVec.ofInt 64 7).toNat
theorem an7_ok (Γ : Env) (x : Int) (H : Heap) : opA Γ (.bin .and (.const (.int .i64 x)) (.const (.int .i64 7))) [] H = some ((.int .i64 (an7 x)), H) := by
  simp only [opA, pureA, ev, binA, intBin, if_true]
  rfl
structure Tp where
  p : List Int
  q : List Int
  r : List Int
  s : List Int
  l : List Int
  d : List Int
def idAt (T : Tp) : Nat → Int
  | 0 => 0
  | i + 1 => idAt T i + 1 + wn (pickZ T.l i) 0 3
theorem idAt_le (T : Tp) : ∀ i : Nat, 0 ≤ idAt T i ∧ idAt T i ≤ 4 * i
  | 0 => by simp [idAt]
  | i + 1 => by
    have := idAt_le T i
    have a := wn_lo (x := pickZ T.l i) (lo := 0) (hi := 3) (by omega)
    have b := wn_hi (x := pickZ T.l i) (lo := 0) (hi := 3) (by omega)
    simp only [idAt]
    omega
def lineAt (T : Tp) (i : Nat) : Ln := ⟨idAt T (i + 1), wn (T.p.getD i 0) 0 1099511627776, wn (pickZ T.q i) 0 9000, wn (pickZ T.r i) 0 1099511627776, wn (pickZ T.s i) 0 900, wn (pickZ T.l i) 0 12, an7 (pickZ T.d i) == 7⟩
def linesTo (T : Tp) (n : Nat) : List Ln := (List.range n).map (lineAt T)
def lines (T : Tp) : List Ln := linesTo T (min T.p.length 12)
theorem linesTo_succ (T : Tp) (n : Nat) : (linesTo T (n + 1)).map Ln.enc = (linesTo T n).map Ln.enc ++ [(lineAt T n).enc] := by
  simp [linesTo, List.range_succ]
theorem linesTo_len (T : Tp) (n : Nat) : (linesTo T n).length = n := by simp [linesTo]
/-- (cascade/cascadekeep.Tape).Lines -/
def il33 : FnIL := ⟨63, [.tmp 2],
  .seq (.reg [
     ⟨(some 1), none, .box (.tmp 0)⟩,
     ⟨(some 2), none, .mov (.const (.slice none 0 0))⟩])
  (.seq (.reg [
     ⟨(some 3), none, .mov (.const (.slice none 0 0))⟩])
  (.seq (.reg [
     ⟨(some 4), none, .mov (.const (.int .i64 0))⟩])
  (.seq (.seq (.reg [
      ⟨(some 5), none, .mov (.const (.int .i64 0))⟩])
   (.block 0
     (.loop
       (.seq (.seq (.reg [
           ⟨(some 6), none, .mov (.tmp 5)⟩,
           ⟨(some 7), none, .fadr 0 (.tmp 1)⟩,
           ⟨(some 8), none, .load (.tmp 7) none⟩,
           ⟨(some 9), none, .len (.tmp 8)⟩,
           ⟨(some 10), none, .bin .lss (.tmp 6) (.tmp 9)⟩,
           ⟨(some 11), none, .mov (.tmp 10)⟩,
           ⟨(some 12), (some (11, true)), .mov (.tmp 5)⟩,
           ⟨(some 13), (some (11, true)), .bin .lss (.tmp 12) (.const (.int .i64 12))⟩,
           ⟨(some 14), none, .pick (.tmp 11) (.tmp 13) (.const (.bool false))⟩])
        (.ite (.tmp 14)
          (.skip)
          (.exit 0)))
       (.seq (.block 1
          (.seq (.reg [
             ⟨(some 17), none, .mov (.tmp 4)⟩,
             ⟨(some 18), none, .bin .add (.tmp 17) (.const (.int .i64 1))⟩,
             ⟨(some 19), none, .fadr 4 (.tmp 1)⟩,
             ⟨(some 20), none, .load (.tmp 19) none⟩,
             ⟨(some 21), none, .mov (.tmp 5)⟩,
             ⟨(some 22), none, .call 39 [(.tmp 20), (.tmp 21)]⟩,
             ⟨(some 23), none, .call 19 [(.tmp 22), (.const (.int .i64 0)), (.const (.int .i64 3))]⟩,
             ⟨(some 24), none, .bin .add (.tmp 18) (.tmp 23)⟩,
             ⟨(some 4), none, .mov (.tmp 24)⟩])
          (.dreg [
            ⟨(some 25), none, .mov (.tmp 3)⟩,
            ⟨(some 26), none, .mov (.tmp 4)⟩,
            ⟨(some 27), none, .fadr 0 (.tmp 1)⟩,
            ⟨(some 28), none, .load (.tmp 27) none⟩,
            ⟨(some 29), none, .mov (.tmp 5)⟩,
            ⟨(some 30), none, .iadr 1 none (.tmp 28) (.tmp 29)⟩,
            ⟨(some 31), none, .load (.tmp 30) none⟩,
            ⟨(some 32), none, .call 19 [(.tmp 31), (.const (.int .i64 0)), (.const (.int .i64 1099511627776))]⟩,
            ⟨(some 33), none, .fadr 1 (.tmp 1)⟩,
            ⟨(some 34), none, .load (.tmp 33) none⟩,
            ⟨(some 35), none, .mov (.tmp 5)⟩,
            ⟨(some 36), none, .call 39 [(.tmp 34), (.tmp 35)]⟩,
            ⟨(some 37), none, .call 19 [(.tmp 36), (.const (.int .i64 0)), (.const (.int .i64 9000))]⟩,
            ⟨(some 38), none, .fadr 2 (.tmp 1)⟩,
            ⟨(some 39), none, .load (.tmp 38) none⟩,
            ⟨(some 40), none, .mov (.tmp 5)⟩,
            ⟨(some 41), none, .call 39 [(.tmp 39), (.tmp 40)]⟩,
            ⟨(some 42), none, .call 19 [(.tmp 41), (.const (.int .i64 0)), (.const (.int .i64 1099511627776))]⟩,
            ⟨(some 43), none, .fadr 3 (.tmp 1)⟩,
            ⟨(some 44), none, .load (.tmp 43) none⟩,
            ⟨(some 45), none, .mov (.tmp 5)⟩,
            ⟨(some 46), none, .call 39 [(.tmp 44), (.tmp 45)]⟩,
            ⟨(some 47), none, .call 19 [(.tmp 46), (.const (.int .i64 0)), (.const (.int .i64 900))]⟩,
            ⟨(some 48), none, .fadr 4 (.tmp 1)⟩,
            ⟨(some 49), none, .load (.tmp 48) none⟩,
            ⟨(some 50), none, .mov (.tmp 5)⟩,
            ⟨(some 51), none, .call 39 [(.tmp 49), (.tmp 50)]⟩,
            ⟨(some 52), none, .call 19 [(.tmp 51), (.const (.int .i64 0)), (.const (.int .i64 12))]⟩,
            ⟨(some 53), none, .fadr 5 (.tmp 1)⟩,
            ⟨(some 54), none, .load (.tmp 53) none⟩,
            ⟨(some 55), none, .mov (.tmp 5)⟩,
            ⟨(some 56), none, .call 39 [(.tmp 54), (.tmp 55)]⟩,
            ⟨(some 57), none, .bin .and (.tmp 56) (.const (.int .i64 7))⟩,
            ⟨(some 58), none, .bin .eql (.tmp 57) (.const (.int .i64 7))⟩,
            ⟨(some 59), none, .build [(.int .i64 0), (.int .i64 0), (.int .i64 0), (.int .i64 0), (.int .i64 0), (.int .i64 0), (.bool false)] [(0, 1, (.tmp 26)), (1, 1, (.tmp 32)), (2, 1, (.tmp 37)), (3, 1, (.tmp 42)), (4, 1, (.tmp 47)), (5, 1, (.tmp 52)), (6, 1, (.tmp 58))]⟩,
            ⟨(some 60), none, .mkrow [(.int .i64 0), (.int .i64 0), (.int .i64 0), (.int .i64 0), (.int .i64 0), (.int .i64 0), (.bool false)] 1 [(0, 7, (.tmp 59))]⟩,
            ⟨(some 61), none, .append 7 56 (.tmp 25) (.tmp 60)⟩,
            ⟨(some 3), none, .mov (.tmp 61)⟩] [])))
       (.reg [
         ⟨(some 15), none, .mov (.tmp 5)⟩,
         ⟨(some 16), none, .bin .add (.tmp 15) (.const (.int .i64 1))⟩,
         ⟨(some 5), none, .mov (.tmp 16)⟩]))))))
  (.seq (.reg [
     ⟨(some 62), none, .mov (.tmp 3)⟩,
     ⟨(some 2), none, .mov (.tmp 62)⟩])
  (.ret)))))⟩
theorem st33 : stF Try.prog qt 33 = some il33 := by kernel_rfl
/- live ahead of a turn: [1, 2, 3, 4, 5] -/
def body33_0 : IL := .seq (.seq (.reg [
      ⟨(some 6), none, .mov (.tmp 5)⟩,
      ⟨(some 7), none, .fadr 0 (.tmp 1)⟩,
      ⟨(some 8), none, .load (.tmp 7) none⟩,
      ⟨(some 9), none, .len (.tmp 8)⟩,
      ⟨(some 10), none, .bin .lss (.tmp 6) (.tmp 9)⟩,
      ⟨(some 11), none, .mov (.tmp 10)⟩,
      ⟨(some 12), (some (11, true)), .mov (.tmp 5)⟩,
      ⟨(some 13), (some (11, true)), .bin .lss (.tmp 12) (.const (.int .i64 12))⟩,
      ⟨(some 14), none, .pick (.tmp 11) (.tmp 13) (.const (.bool false))⟩])
   (.ite (.tmp 14)
     (.skip)
     (.exit 0)))
  (.seq (.block 1
     (.seq (.reg [
        ⟨(some 17), none, .mov (.tmp 4)⟩,
        ⟨(some 18), none, .bin .add (.tmp 17) (.const (.int .i64 1))⟩,
        ⟨(some 19), none, .fadr 4 (.tmp 1)⟩,
        ⟨(some 20), none, .load (.tmp 19) none⟩,
        ⟨(some 21), none, .mov (.tmp 5)⟩,
        ⟨(some 22), none, .call 39 [(.tmp 20), (.tmp 21)]⟩,
        ⟨(some 23), none, .call 19 [(.tmp 22), (.const (.int .i64 0)), (.const (.int .i64 3))]⟩,
        ⟨(some 24), none, .bin .add (.tmp 18) (.tmp 23)⟩,
        ⟨(some 4), none, .mov (.tmp 24)⟩])
     (.dreg [
       ⟨(some 25), none, .mov (.tmp 3)⟩,
       ⟨(some 26), none, .mov (.tmp 4)⟩,
       ⟨(some 27), none, .fadr 0 (.tmp 1)⟩,
       ⟨(some 28), none, .load (.tmp 27) none⟩,
       ⟨(some 29), none, .mov (.tmp 5)⟩,
       ⟨(some 30), none, .iadr 1 none (.tmp 28) (.tmp 29)⟩,
       ⟨(some 31), none, .load (.tmp 30) none⟩,
       ⟨(some 32), none, .call 19 [(.tmp 31), (.const (.int .i64 0)), (.const (.int .i64 1099511627776))]⟩,
       ⟨(some 33), none, .fadr 1 (.tmp 1)⟩,
       ⟨(some 34), none, .load (.tmp 33) none⟩,
       ⟨(some 35), none, .mov (.tmp 5)⟩,
       ⟨(some 36), none, .call 39 [(.tmp 34), (.tmp 35)]⟩,
       ⟨(some 37), none, .call 19 [(.tmp 36), (.const (.int .i64 0)), (.const (.int .i64 9000))]⟩,
       ⟨(some 38), none, .fadr 2 (.tmp 1)⟩,
       ⟨(some 39), none, .load (.tmp 38) none⟩,
       ⟨(some 40), none, .mov (.tmp 5)⟩,
       ⟨(some 41), none, .call 39 [(.tmp 39), (.tmp 40)]⟩,
       ⟨(some 42), none, .call 19 [(.tmp 41), (.const (.int .i64 0)), (.const (.int .i64 1099511627776))]⟩,
       ⟨(some 43), none, .fadr 3 (.tmp 1)⟩,
       ⟨(some 44), none, .load (.tmp 43) none⟩,
       ⟨(some 45), none, .mov (.tmp 5)⟩,
       ⟨(some 46), none, .call 39 [(.tmp 44), (.tmp 45)]⟩,
       ⟨(some 47), none, .call 19 [(.tmp 46), (.const (.int .i64 0)), (.const (.int .i64 900))]⟩,
       ⟨(some 48), none, .fadr 4 (.tmp 1)⟩,
       ⟨(some 49), none, .load (.tmp 48) none⟩,
       ⟨(some 50), none, .mov (.tmp 5)⟩,
       ⟨(some 51), none, .call 39 [(.tmp 49), (.tmp 50)]⟩,
       ⟨(some 52), none, .call 19 [(.tmp 51), (.const (.int .i64 0)), (.const (.int .i64 12))]⟩,
       ⟨(some 53), none, .fadr 5 (.tmp 1)⟩,
       ⟨(some 54), none, .load (.tmp 53) none⟩,
       ⟨(some 55), none, .mov (.tmp 5)⟩,
       ⟨(some 56), none, .call 39 [(.tmp 54), (.tmp 55)]⟩,
       ⟨(some 57), none, .bin .and (.tmp 56) (.const (.int .i64 7))⟩,
       ⟨(some 58), none, .bin .eql (.tmp 57) (.const (.int .i64 7))⟩,
       ⟨(some 59), none, .build [(.int .i64 0), (.int .i64 0), (.int .i64 0), (.int .i64 0), (.int .i64 0), (.int .i64 0), (.bool false)] [(0, 1, (.tmp 26)), (1, 1, (.tmp 32)), (2, 1, (.tmp 37)), (3, 1, (.tmp 42)), (4, 1, (.tmp 47)), (5, 1, (.tmp 52)), (6, 1, (.tmp 58))]⟩,
       ⟨(some 60), none, .mkrow [(.int .i64 0), (.int .i64 0), (.int .i64 0), (.int .i64 0), (.int .i64 0), (.int .i64 0), (.bool false)] 1 [(0, 7, (.tmp 59))]⟩,
       ⟨(some 61), none, .append 7 56 (.tmp 25) (.tmp 60)⟩,
       ⟨(some 3), none, .mov (.tmp 61)⟩] [])))
  (.reg [
    ⟨(some 15), none, .mov (.tmp 5)⟩,
    ⟨(some 16), none, .bin .add (.tmp 15) (.const (.int .i64 1))⟩,
    ⟨(some 5), none, .mov (.tmp 16)⟩]))
def hb33_0 (s0 s1 s2 s3 s4 s5 q l l2 : Value) (n i id : Int) (b1 : Nat) (z0 z1 z2 z3 z4 z5 : Int) (H H2 : Heap) : Hj := (.use 8 s0 H (.use 9 (.int .i64 n) H (.join 3 (.con (.con (.con .nil))) (.con (.con (.con .nil))) (.sym (.use 20 s4 H (.use 22 (.int .i64 z4) H (.use 28 s0 H (.use 30 q H (.use 31 (.int .i64 z0) H (.use 34 s1 H (.use 36 (.int .i64 z1) H (.use 39 s2 H (.use 41 (.int .i64 z2) H (.use 44 s3 H (.use 46 (.int .i64 z3) H (.use 49 s4 H (.use 51 (.int .i64 z4) H (.use 54 s5 H (.use 56 (.int .i64 z5) H (.use 57 (.int .i64 (an7 z5)) H (.use 61 l2 H2 .nil))))))))))))))))) .nil))))
theorem turn33_0 (s0 s1 s2 s3 s4 s5 q l l2 : Value) (n i id : Int) (b1 : Nat) (z0 z1 z2 z3 z4 z5 : Int) (H H2 : Heap) : pieceT tblW gP 100 (fun i => exL i body33_0 || inL [2, 3] i) body33_0 (hb33_0 s0 s1 s2 s3 s4 s5 q l l2 n i id b1 z0 z1 z2 z3 z4 z5 H H2) (fr 63 [(1, (.pointer (some ⟨b1, 0, none⟩))), (2, (.slice none 0 0)), (3, l), (4, (.int .i64 id)), (5, (.int .i64 i))]) H =
(.claim (opA (Plain.env tblW gP) (.load (.const (.pointer (some ⟨b1, 0, none⟩))) none) [] H = some (s0, H))
 (.claim (opA (Plain.env tblW gP) (.len (.const s0)) [] H = some ((.int .i64 n), H))
 (.req (bif (decide (i < n)) then true else true) (.br (bif (decide (i < n)) then (decide (i < 12)) else false)
 (.claim (opA (Plain.env tblW gP) (.load (.const (.pointer (some ⟨b1, 4, none⟩))) none) [] H = some (s4, H))
 (.claim (opA (Plain.env tblW gP) (.call 39 [(.const s4), (.const (.int .i64 i))]) [] H = some ((.int .i64 z4), H))
 (.req (preWithin 0 3) (.req true (.claim (opA (Plain.env tblW gP) (.load (.const (.pointer (some ⟨b1, 0, none⟩))) none) [] H = some (s0, H))
 (.claim (opA (Plain.env tblW gP) (.iadr 1 none (.const s0) (.const (.int .i64 i))) [] H = some (q, H))
 (.claim (opA (Plain.env tblW gP) (.load (.const q) none) [] H = some ((.int .i64 z0), H))
 (.req (preWithin 0 1099511627776) (.claim (opA (Plain.env tblW gP) (.load (.const (.pointer (some ⟨b1, 1, none⟩))) none) [] H = some (s1, H))
 (.claim (opA (Plain.env tblW gP) (.call 39 [(.const s1), (.const (.int .i64 i))]) [] H = some ((.int .i64 z1), H))
 (.req (preWithin 0 9000) (.claim (opA (Plain.env tblW gP) (.load (.const (.pointer (some ⟨b1, 2, none⟩))) none) [] H = some (s2, H))
 (.claim (opA (Plain.env tblW gP) (.call 39 [(.const s2), (.const (.int .i64 i))]) [] H = some ((.int .i64 z2), H))
 (.req (preWithin 0 1099511627776) (.claim (opA (Plain.env tblW gP) (.load (.const (.pointer (some ⟨b1, 3, none⟩))) none) [] H = some (s3, H))
 (.claim (opA (Plain.env tblW gP) (.call 39 [(.const s3), (.const (.int .i64 i))]) [] H = some ((.int .i64 z3), H))
 (.req (preWithin 0 900) (.claim (opA (Plain.env tblW gP) (.load (.const (.pointer (some ⟨b1, 4, none⟩))) none) [] H = some (s4, H))
 (.claim (opA (Plain.env tblW gP) (.call 39 [(.const s4), (.const (.int .i64 i))]) [] H = some ((.int .i64 z4), H))
 (.req (preWithin 0 12) (.claim (opA (Plain.env tblW gP) (.load (.const (.pointer (some ⟨b1, 5, none⟩))) none) [] H = some (s5, H))
 (.claim (opA (Plain.env tblW gP) (.call 39 [(.const s5), (.const (.int .i64 i))]) [] H = some ((.int .i64 z5), H))
 (.claim (opA (Plain.env tblW gP) (.bin .and (.const (.int .i64 z5)) (.const (.int .i64 7))) [] H = some ((.int .i64 (an7 z5)), H))
 (.claim (opA (Plain.env tblW gP) (.append 7 56 (.const l) (.const (.slice (some ⟨(H).length, 0, none⟩) 1 1))) [] (H ++ [some (Blk.mk .fix [(.int .i64 (IntKind.wrap .i64 ((IntKind.wrap .i64 (id + 1)) + (wn z4 0 3)))), (.int .i64 (wn z0 0 1099511627776)), (.int .i64 (wn z1 0 9000)), (.int .i64 (wn z2 0 1099511627776)), (.int .i64 (wn z3 0 900)), (.int .i64 (wn z4 0 12)), (.bool ((an7 z5) == 7))])]) = some (l2, H2))
 (.ret (pk .normal (fr 63 [(1, (.pointer (some ⟨b1, 0, none⟩))), (2, (.slice none 0 0)), (3, l2), (4, (.int .i64 (IntKind.wrap .i64 ((IntKind.wrap .i64 (id + 1)) + (wn z4 0 3))))), (5, (.int .i64 (IntKind.wrap .i64 (i + 1))))])) H2)))))))))))))))))))))))))
 (.ret (pk (.exit 0) (fr 63 [(1, (.pointer (some ⟨b1, 0, none⟩))), (2, (.slice none 0 0)), (3, l), (4, (.int .i64 id)), (5, (.int .i64 i))])) H))))) := by kernel_rfl
def il33a : IL := .seq (.reg [
     ⟨(some 1), none, .box (.tmp 0)⟩,
     ⟨(some 2), none, .mov (.const (.slice none 0 0))⟩])
  (.seq (.reg [
     ⟨(some 3), none, .mov (.const (.slice none 0 0))⟩])
  (.seq (.reg [
     ⟨(some 4), none, .mov (.const (.int .i64 0))⟩])
  (.seq (.seq (.reg [
      ⟨(some 5), none, .mov (.const (.int .i64 0))⟩])
   (.block 0
     (.loop
       (.seq (.seq (.reg [
           ⟨(some 6), none, .mov (.tmp 5)⟩,
           ⟨(some 7), none, .fadr 0 (.tmp 1)⟩,
           ⟨(some 8), none, .load (.tmp 7) none⟩,
           ⟨(some 9), none, .len (.tmp 8)⟩,
           ⟨(some 10), none, .bin .lss (.tmp 6) (.tmp 9)⟩,
           ⟨(some 11), none, .mov (.tmp 10)⟩,
           ⟨(some 12), (some (11, true)), .mov (.tmp 5)⟩,
           ⟨(some 13), (some (11, true)), .bin .lss (.tmp 12) (.const (.int .i64 12))⟩,
           ⟨(some 14), none, .pick (.tmp 11) (.tmp 13) (.const (.bool false))⟩])
        (.ite (.tmp 14)
          (.skip)
          (.exit 0)))
       (.seq (.block 1
          (.seq (.reg [
             ⟨(some 17), none, .mov (.tmp 4)⟩,
             ⟨(some 18), none, .bin .add (.tmp 17) (.const (.int .i64 1))⟩,
             ⟨(some 19), none, .fadr 4 (.tmp 1)⟩,
             ⟨(some 20), none, .load (.tmp 19) none⟩,
             ⟨(some 21), none, .mov (.tmp 5)⟩,
             ⟨(some 22), none, .call 39 [(.tmp 20), (.tmp 21)]⟩,
             ⟨(some 23), none, .call 19 [(.tmp 22), (.const (.int .i64 0)), (.const (.int .i64 3))]⟩,
             ⟨(some 24), none, .bin .add (.tmp 18) (.tmp 23)⟩,
             ⟨(some 4), none, .mov (.tmp 24)⟩])
          (.dreg [
            ⟨(some 25), none, .mov (.tmp 3)⟩,
            ⟨(some 26), none, .mov (.tmp 4)⟩,
            ⟨(some 27), none, .fadr 0 (.tmp 1)⟩,
            ⟨(some 28), none, .load (.tmp 27) none⟩,
            ⟨(some 29), none, .mov (.tmp 5)⟩,
            ⟨(some 30), none, .iadr 1 none (.tmp 28) (.tmp 29)⟩,
            ⟨(some 31), none, .load (.tmp 30) none⟩,
            ⟨(some 32), none, .call 19 [(.tmp 31), (.const (.int .i64 0)), (.const (.int .i64 1099511627776))]⟩,
            ⟨(some 33), none, .fadr 1 (.tmp 1)⟩,
            ⟨(some 34), none, .load (.tmp 33) none⟩,
            ⟨(some 35), none, .mov (.tmp 5)⟩,
            ⟨(some 36), none, .call 39 [(.tmp 34), (.tmp 35)]⟩,
            ⟨(some 37), none, .call 19 [(.tmp 36), (.const (.int .i64 0)), (.const (.int .i64 9000))]⟩,
            ⟨(some 38), none, .fadr 2 (.tmp 1)⟩,
            ⟨(some 39), none, .load (.tmp 38) none⟩,
            ⟨(some 40), none, .mov (.tmp 5)⟩,
            ⟨(some 41), none, .call 39 [(.tmp 39), (.tmp 40)]⟩,
            ⟨(some 42), none, .call 19 [(.tmp 41), (.const (.int .i64 0)), (.const (.int .i64 1099511627776))]⟩,
            ⟨(some 43), none, .fadr 3 (.tmp 1)⟩,
            ⟨(some 44), none, .load (.tmp 43) none⟩,
            ⟨(some 45), none, .mov (.tmp 5)⟩,
            ⟨(some 46), none, .call 39 [(.tmp 44), (.tmp 45)]⟩,
            ⟨(some 47), none, .call 19 [(.tmp 46), (.const (.int .i64 0)), (.const (.int .i64 900))]⟩,
            ⟨(some 48), none, .fadr 4 (.tmp 1)⟩,
            ⟨(some 49), none, .load (.tmp 48) none⟩,
            ⟨(some 50), none, .mov (.tmp 5)⟩,
            ⟨(some 51), none, .call 39 [(.tmp 49), (.tmp 50)]⟩,
            ⟨(some 52), none, .call 19 [(.tmp 51), (.const (.int .i64 0)), (.const (.int .i64 12))]⟩,
            ⟨(some 53), none, .fadr 5 (.tmp 1)⟩,
            ⟨(some 54), none, .load (.tmp 53) none⟩,
            ⟨(some 55), none, .mov (.tmp 5)⟩,
            ⟨(some 56), none, .call 39 [(.tmp 54), (.tmp 55)]⟩,
            ⟨(some 57), none, .bin .and (.tmp 56) (.const (.int .i64 7))⟩,
            ⟨(some 58), none, .bin .eql (.tmp 57) (.const (.int .i64 7))⟩,
            ⟨(some 59), none, .build [(.int .i64 0), (.int .i64 0), (.int .i64 0), (.int .i64 0), (.int .i64 0), (.int .i64 0), (.bool false)] [(0, 1, (.tmp 26)), (1, 1, (.tmp 32)), (2, 1, (.tmp 37)), (3, 1, (.tmp 42)), (4, 1, (.tmp 47)), (5, 1, (.tmp 52)), (6, 1, (.tmp 58))]⟩,
            ⟨(some 60), none, .mkrow [(.int .i64 0), (.int .i64 0), (.int .i64 0), (.int .i64 0), (.int .i64 0), (.int .i64 0), (.bool false)] 1 [(0, 7, (.tmp 59))]⟩,
            ⟨(some 61), none, .append 7 56 (.tmp 25) (.tmp 60)⟩,
            ⟨(some 3), none, .mov (.tmp 61)⟩] [])))
       (.reg [
         ⟨(some 15), none, .mov (.tmp 5)⟩,
         ⟨(some 16), none, .bin .add (.tmp 15) (.const (.int .i64 1))⟩,
         ⟨(some 5), none, .mov (.tmp 16)⟩]))))))
  (.seq (.reg [
     ⟨(some 62), none, .mov (.tmp 3)⟩,
     ⟨(some 2), none, .mov (.tmp 62)⟩])
  (.ret)))))
def hn33a (s0 s1 s2 s3 s4 s5 l : Value) (H H1 : Heap) : Hj := (.lp 0 [2, 3] (fr 63 [(2, (.slice none 0 0)), (3, l)]) H1 .nil)
theorem tree33a (s0 s1 s2 s3 s4 s5 l : Value) (H H1 : Heap) : pieceT tblW gP 100 (resLv [.tmp 2]) il33a (hn33a s0 s1 s2 s3 s4 s5 l H H1) (fr 63 [(0, (.agg ⟨[s0, s1, s2, s3, s4, s5]⟩))]) H =
(.claim (Wp (Plain.env tblW gP) (inL [2, 3]) (.block 0 (.loop body33_0)) (fr 63 [(1, (.pointer (some ⟨(H).length, 0, none⟩))), (2, (.slice none 0 0)), (3, (.slice none 0 0)), (4, (.int .i64 0)), (5, (.int .i64 0))]) (H ++ [some (Blk.mk .fix [s0, s1, s2, s3, s4, s5])]) fun e s h' => e = .normal ∧ s = (fr 63 [(2, (.slice none 0 0)), (3, l)]) ∧ h' = H1)
 (.ret (pk .ret (fr 63 [(2, l)])) H1)) := by kernel_rfl

structure TpAt (h : Heap) (s0 s1 s2 s3 s4 s5 : Value) (T : Tp) : Prop where
  a0 : RowsAt 1 h s0 (nums T.p)
  a1 : RowsAt 1 h s1 (nums T.q)
  a2 : RowsAt 1 h s2 (nums T.r)
  a3 : RowsAt 1 h s3 (nums T.s)
  a4 : RowsAt 1 h s4 (nums T.l)
  a5 : RowsAt 1 h s5 (nums T.d)
theorem TpAt.more {h H : Heap} {s0 s1 s2 s3 s4 s5 : Value} {T : Tp} (a : TpAt h s0 s1 s2 s3 s4 s5 T) (k : ∀ B blk, rd h B = some blk → rd H B = some blk) : TpAt H s0 s1 s2 s3 s4 s5 T :=
  ⟨a.a0.more k, a.a1.more k, a.a2.more k, a.a3.more k, a.a4.more k, a.a5.more k⟩
structure In33 (h0 : Heap) (b1 : Nat) (s0 s1 s2 s3 s4 s5 : Value) (l : Value) (rows : List (List Value)) (H : Heap) : Prop where
  old : H.take h0.length = h0
  len : h0.length ≤ H.length
  r1 : rd H b1 = some (Blk.mk .fix [s0, s1, s2, s3, s4, s5])
  ls : LsOf 7 h0.length H l rows
abbrev fr33 (b1 : Nat) (l : Value) (id i : Int) : Fr := fr 63 [(1, (.pointer (some ⟨b1, 0, none⟩))), (2, (.slice none 0 0)), (3, l), (4, (.int .i64 id)), (5, (.int .i64 i))]
def inv33 (h0 : Heap) (b1 : Nat) (s0 s1 s2 s3 s4 s5 : Value) (T : Tp) (m : Nat) (t : Fr) (H : Heap) : Prop :=
  ∃ i l, i + m = min T.p.length 12 ∧ t = fr33 b1 l (idAt T i) i ∧ In33 h0 b1 s0 s1 s2 s3 s4 s5 l ((linesTo T i).map Ln.enc) H
theorem loop33 {h0 H0 : Heap} {b1 : Nat} {s0 s1 s2 s3 s4 s5 : Value} {T : Tp} (hT : TpAt h0 s0 s1 s2 s3 s4 s5 T) (i0 : In33 h0 b1 s0 s1 s2 s3 s4 s5 (.slice none 0 0) [] H0) :
    Wp (Plain.env tblW gP) (inL [2, 3]) (.block 0 (.loop body33_0)) (fr33 b1 (.slice none 0 0) 0 0) H0 fun e t H => ∃ l, e = .normal ∧ t = fr 63 [(2, (.slice none 0 0)), (3, l)] ∧ In33 h0 b1 s0 s1 s2 s3 s4 s5 l ((lines T).map Ln.enc) H := by
  refine Wp.block ((Wp.loop (K := fun e t H => ∃ l, e = .exit 0 ∧ t = fr33 b1 l (idAt T (min T.p.length 12)) (min T.p.length 12 : Nat) ∧ In33 h0 b1 s0 s1 s2 s3 s4 s5 l ((lines T).map Ln.enc) H) (inv33 h0 b1 s0 s1 s2 s3 s4 s5 T) ?_ (min T.p.length 12) _ _ ⟨0, _, by omega, rfl, i0⟩).ends fun e t H ⟨l, q1, q2, q3⟩ => ?_)
  · rintro m t H ⟨i, l, hi, ht, hI⟩
    subst ht
    have hTH := hT.more fun B blk e => rd_take hI.old e
    have hlen : ∀ Γ, opA Γ (.len (.const s0)) [] H = some ((.int .i64 T.p.length), H) := fun Γ => by have := hTH.a0.len (Γ := Γ) (H := H); rw [nums, List.length_map] at this; exact this
    cases m with
    | zero =>
      have hil : i = min T.p.length 12 := by omega
      refine Wp.piece 100 (hb33_0 s0 s1 s2 s3 s4 s5 s0 l l T.p.length i (idAt T i) b1 0 0 0 0 0 0 H H) ?_
      rw [turn33_0]
      refine ⟨ld1 hI.r1 rfl, hlen _, by simp, fun q => ?_, fun _ => outP_pk ⟨l, rfl, ?_, ?_⟩⟩
      · simp at q; omega
      · rw [hil]
      · subst hil; exact hI
    | succ m =>
      have hlt : i < T.p.length := by omega
      have hlt2 : i < 12 := by omega
      have hx : T.p[i]? = some T.p[i] := List.getElem?_eq_getElem hlt
      have hgd : T.p.getD i 0 = T.p[i] := by simp [List.getD, hx]
      obtain ⟨q, q1, _, q3⟩ := hTH.a0.at_ (i := i) (row := [.int .i64 (T.p.getD i 0)]) (by rw [nums, List.getElem?_map, hx, hgd]; rfl)
      have hid := idAt_le T i
      have w1 : IntKind.wrap .i64 (idAt T i + 1) = idAt T i + 1 := wrap_id (by omega) (by omega)
      have a := wn_lo (x := pickZ T.l i) (lo := 0) (hi := 3) (by omega)
      have b := wn_hi (x := pickZ T.l i) (lo := 0) (hi := 3) (by omega)
      have w2 : IntKind.wrap .i64 (idAt T i + 1 + wn (pickZ T.l i) 0 3) = idAt T (i + 1) := wrap_id (by omega) (by omega)
      have w3 : IntKind.wrap .i64 ((i : Int) + 1) = ((i + 1 : Nat) : Int) := by rw [wrap_id (by omega) (by omega)]; rfl
      have hll : ((linesTo T i).map Ln.enc).length = i := by rw [List.length_map, linesTo_len]
      obtain ⟨l2, H2, g1, g2, g3, g4, g5⟩ := hI.ls.grow (eby := 56) (row := (lineAt T i).enc) rfl (by decide) (by rw [hll]; omega) (by rw [hll]; omega) hI.old hI.len
      refine Wp.piece 100 (hb33_0 s0 s1 s2 s3 s4 s5 q l l2 T.p.length i (idAt T i) b1 (T.p.getD i 0) (pickZ T.q i) (pickZ T.r i) (pickZ T.s i) (pickZ T.l i) (pickZ T.d i) H H2) ?_
      rw [turn33_0, w1, w2, w3]
      have ii : (0 : Int) ≤ i := by omega
      refine ⟨ld1 hI.r1 rfl, hlen _, by simp, fun _ => ?_, fun q => ?_⟩
      · refine ⟨ld1 hI.r1 rfl, pick_at hTH.a4 ii, by decide, rfl, ld1 hI.r1 rfl, q1 _ _, q3 _ _ rfl rfl, by decide, ld1 hI.r1 rfl, pick_at hTH.a1 ii, by decide, ld1 hI.r1 rfl, pick_at hTH.a2 ii, by decide, ld1 hI.r1 rfl, pick_at hTH.a3 ii, by decide, ld1 hI.r1 rfl, pick_at hTH.a4 ii, by decide, ld1 hI.r1 rfl, pick_at hTH.a5 ii, an7_ok _ _ _, g1 _, ?_⟩
        refine outP_pk ⟨m, by omega, i + 1, l2, by omega, rfl, g3, g4, g5 _ _ hI.r1 (fun e q => by cases q), ?_⟩
        rw [linesTo_succ]
        exact g2
      · simp [hlt] at q
        omega
  · subst q1 q2
    exact ⟨_, norm_ag (inL [2, 3]) _, l, rfl, by kernel_rfl, q3⟩
/-- What Lines answers. -/
def LinesRes (h : Heap) (ls : List Ln) (v : Value) (h' : Heap) : Prop :=
  (ls = [] ∧ v = .slice none 0 0 ∧ h' = h) ∨ (ls ≠ [] ∧ v = .slice (some ⟨h.length, 0, none⟩) ls.length ls.length ∧ h' = h ++ [some ⟨.grown 7, (ls.map Ln.enc).flatten⟩])
theorem flat_lines : ∀ (ls : List Ln), ((ls.map Ln.enc).flatten).all (belowC 0) = true
  | [] => rfl
  | x :: r => by
    rw [List.map_cons, List.flatten_cons, List.all_append, flat_lines r]
    rfl
theorem lines_len (T : Tp) : (lines T).length = min T.p.length 12 := linesTo_len T _
theorem lines_sim {h : Heap} {s0 s1 s2 s3 s4 s5 : Value} {T : Tp} (hT : TpAt h s0 s1 s2 s3 s4 s5 T) : Sim Try.prog 33 [.agg ⟨[s0, s1, s2, s3, s4, s5]⟩] h (LinesRes h (lines T)) := by
  have base : Sim Try.prog 33 [.agg ⟨[s0, s1, s2, s3, s4, s5]⟩] h fun v h' => h'.take h.length = h ∧ h.length ≤ h'.length ∧ LsOf 7 h.length h' v ((lines T).map Ln.enc) := by
    refine wp_sim' mixed (Plain.ok okW gP_ok) (Plain.quiet gP_quiet) st33 ?_
    have start : (([.agg ⟨[s0, s1, s2, s3, s4, s5]⟩] : List Value) ++ List.replicate (il33.ntmps - ([.agg ⟨[s0, s1, s2, s3, s4, s5]⟩] : List Value).length) undef) = fr 63 [(0, .agg ⟨[s0, s1, s2, s3, s4, s5]⟩)] := by kernel_rfl
    rw [start, show il33.res = [.tmp 2] from rfl, show il33.body = il33a from rfl]
    have i0 : In33 h h.length s0 s1 s2 s3 s4 s5 (.slice none 0 0) [] (h ++ [some (Blk.mk .fix [s0, s1, s2, s3, s4, s5])]) :=
      ⟨take_app List.take_length (Nat.le_refl _), by simp, rd_last rfl, by simp, .inl ⟨rfl, rfl⟩⟩
    obtain ⟨e, t, H1, ⟨l, k1, k2, k3⟩, w⟩ := (loop33 hT i0).exact
    subst k1 k2
    refine Wp.piece 100 (hn33a s0 s1 s2 s3 s4 s5 l h H1) ?_
    rw [tree33a]
    exact ⟨w, outP_pk ⟨.inr rfl, l, rfl, k3.old, k3.len, k3.ls⟩⟩
  by_cases hz : lines T = []
  · rw [hz] at base ⊢
    refine ((Sim.keep (R := fun v => v = .slice none 0 0) (base.mono fun v h' ⟨b1, b2, b3, b4⟩ => ?_) (fun v hv => by subst hv; rfl)).mono fun v h' ⟨q1, q2⟩ => .inl ⟨rfl, q1, q2⟩)
    rcases b4 with ⟨_, q⟩ | ⟨B, _, q, _⟩
    · exact ⟨q, b2, b1⟩
    · exact absurd rfl q
  · refine ((Sim.last (n := (lines T).length) (c := (lines T).length) (blk := ⟨.grown 7, ((lines T).map Ln.enc).flatten⟩) (base.mono fun v h' ⟨b1, b2, b3, b4⟩ => ?_) (flat_lines _) (by intro q; cases q)).mono fun v h' ⟨q1, q2⟩ => .inr ⟨hz, q1, q2⟩)
    rcases b4 with ⟨q, _⟩ | ⟨B, q1, q2, q3, q4⟩
    · simp at q; exact absurd q hz
    · refine ⟨⟨B, by simpa using q1, q3, rd_some q4⟩, b1⟩
end Go.Proofs.Ytjnppjipoibbeaa.Tape
