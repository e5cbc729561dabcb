/-
  The law LateBuckets, in plain Lean.
-/
import Derived.Test.YtjnppjipoibbeaaPcFrom
namespace Go.Proofs.Ytjnppjipoibbeaa.Buck
open Go.Am
open Tape (pl wrap_l wrap_r wrap_def mixed nums nums_inj flat_at)
set_option linter.all false
set_option maxRecDepth 100000
/-! ### Lists that grow side by side -/
theorem ls_grow {w eby n0 : Nat} {H : Heap} {l : Value} {rows : List (List Value)} {row : List Value} (hl : LsOf w n0 H l rows) (hw : row.length = w) (hp : 0 < w) (hb : (rows.length + 1) * eby ≤ 1099511627776) (hc : rows.length + 1 ≤ 1099511627776) (hle : n0 ≤ H.length) :
    ∃ l2 H2, (∀ Γ, opA Γ (.append w eby (.const l) (.const (.slice (some ⟨H.length, 0, none⟩) 1 1))) [] (H ++ [some (Blk.mk .fix row)]) = some (l2, H2)) ∧
      LsOf w n0 H2 l2 (rows ++ [row]) ∧ H.length ≤ H2.length ∧ (∀ B blk, rd H B = some blk → (∀ n c, l ≠ .slice (some ⟨B, 0, none⟩) n c) → rd H2 B = some blk) ∧ (∀ B n c, l2 = .slice (some ⟨B, 0, none⟩) n c → H.length ≤ B) := by
  obtain ⟨hr, hl⟩ := hl
  have hr2 : ∀ r ∈ rows ++ [row], r.length = w := by
    intro r hm
    rcases List.mem_append.1 hm with q | q
    · exact hr r q
    · simp at q; rw [q]; exact hw
  have src : srcA (H ++ [some (Blk.mk .fix row)]) w (.slice (some ⟨H.length, 0, none⟩) 1 1) = some (1, row) := by
    simp only [srcA, readN, rd_last (H := H) (b := Blk.mk .fix row) rfl, Nat.zero_add, Nat.one_mul, List.drop_zero, ← hw, Nat.le_refl, if_true, List.take_length]
  rcases hl with ⟨rfl, rfl⟩ | ⟨B, rfl, hne, hB, hrd⟩
  · refine ⟨.slice (some ⟨(H ++ [some (Blk.mk .fix row)]).length, 0, none⟩) 1 1, (H ++ [some (Blk.mk .fix row)]) ++ [some ⟨.grown w, row⟩], fun Γ => ?_, ⟨hr2, .inr ⟨_, rfl, by simp, by simp <;> omega, rd_last rfl |>.trans (by simp)⟩⟩, by simp <;> omega, fun B blk hB _ => rd_old (rd_old hB), fun B n c e => by simp at e <;> omega⟩
    have h1 : (1 : Nat) * eby ≤ 1099511627776 := by simpa using hb
    simp only [opA, ev, appA, src]
    rw [if_neg (by decide)]
    simp only [hp, h1, true_and, if_true]
    rw [if_pos (by decide)]
  · have hfl := flat_len hr
    have lt := rd_lt hrd
    refine ⟨.slice (some ⟨(H ++ [some (Blk.mk .fix row)]).length, 0, none⟩) (rows.length + 1) (rows.length + 1), ((H ++ [some (Blk.mk .fix row)]).set B none) ++ [some ⟨.grown w, rows.flatten ++ row⟩], fun Γ => ?_, ⟨hr2, .inr ⟨(H ++ [some (Blk.mk .fix row)]).length, by simp, by simp, by simp <;> omega, (rd_last (by simp)).trans (by simp)⟩⟩, by simp <;> omega, fun B' blk hB' hk => rd_old ?_, fun B n c e => by simp at e <;> omega⟩
    · have hread : readN (H ++ [some (Blk.mk .fix row)]) ⟨B, 0, none⟩ (rows.length * w) = some rows.flatten := by
        simp only [readN, rd_old hrd, Nat.zero_add, hfl, Nat.le_refl, if_true, List.drop_zero]
        rw [← hfl, List.take_length]
      have hend : isEnd (H ++ [some (Blk.mk .fix row)]) w ⟨B, 0, none⟩ rows.length = some true := by
        simp only [isEnd, rd_old hrd, hp, and_self, if_true, Nat.zero_add, hfl, beq_self_eq_true]
      simp only [opA, ev, appA, src]
      rw [if_neg (by decide)]
      have hn : ¬ (rows.length + 1 ≤ rows.length) := by omega
      simp only [hn, if_false, hp, hb, hc, and_self, if_true, hread, hend]
    · have hne : B ≠ B' := fun q => by
        subst q
        exact hk _ _ rfl
      rw [rd_set_ne hne]
      exact rd_old hB'
theorem ls_keep {w n0 : Nat} {H H' : Heap} {l : Value} {rows : List (List Value)} (a : LsOf w n0 H l rows) (k : ∀ B blk n c, rd H B = some blk → l = .slice (some ⟨B, 0, none⟩) n c → rd H' B = some blk) : LsOf w n0 H' l rows := by
  obtain ⟨a1, a2 | ⟨B, b1, b2, b3, b4⟩⟩ := a
  · exact ⟨a1, .inl a2⟩
  · exact ⟨a1, .inr ⟨B, b1, b2, b3, k _ _ _ _ b4 b1⟩⟩
theorem ls_in {w n0 : Nat} {H : Heap} {l : Value} {rows : List (List Value)} (a : LsOf w n0 H l rows) {B n c : Nat} (e : l = .slice (some ⟨B, 0, none⟩) n c) : n0 ≤ B ∧ B < H.length := by
  obtain ⟨_, ⟨_, q⟩ | ⟨B', b1, _, b3, b4⟩⟩ := a
  · rw [q] at e; cases e
  · rw [b1] at e
    simp only [Value.slice.injEq, Option.some.injEq, Addr.mk.injEq] at e
    obtain ⟨⟨rfl, _, _⟩, _, _⟩ := e
    exact ⟨b3, rd_lt b4⟩
theorem ls_rows {w n0 : Nat} {H : Heap} {l : Value} {rows : List (List Value)} (a : LsOf w n0 H l rows) : RowsAt w H l rows := by
  obtain ⟨a1, ⟨rfl, rfl⟩ | ⟨B, rfl, _, _, b4⟩⟩ := a
  · exact .inl ⟨rfl, rfl⟩
  · refine .inr ⟨B, 0, rows.length, _, rfl, b4, fun i r e => ?_⟩
    rw [Nat.zero_add]
    exact flat_at rows a1 i r e
theorem ls_lo {w n0 : Nat} {H : Heap} {l : Value} {rows : List (List Value)} (a : LsOf w n0 H l rows) (hp : 0 < w) {c : Nat} (hc : c ≤ rows.length) :
    ∃ lb, (∀ Γ, opA Γ (.slice w (.const l) none (some (.const (.int .i64 c))) none) [] H = some (lb, H)) ∧ RowsAt w H lb (rows.take c) := by
  obtain ⟨a1, ⟨rfl, rfl⟩ | ⟨B, rfl, _, _, b4⟩⟩ := a
  · have : c = 0 := by simpa using hc
    subst this
    exact ⟨.slice none 0 0, fun Γ => rfl, .inl ⟨rfl, rfl⟩⟩
  · have hl := flat_len a1
    have he : isEnd H w ⟨B, 0, none⟩ rows.length = some true := by
      simp only [isEnd, b4, hl]
      simp [hp]
    refine ⟨.slice (some ⟨B, 0, none⟩) c rows.length, fun Γ => ?_, .inr ⟨B, 0, rows.length, _, by simp [hc], b4, fun i r e => ?_⟩⟩
    · have h1 : (0 : Int) ≤ c ∧ (c : Int) ≤ rows.length := ⟨by omega, by omega⟩
      simp only [opA, pureA, ev, Option.map, sliceA, hiB, loB, boundA, h1, and_self, if_true, Int.toNat_natCast, he, Nat.zero_mul, Addr.add, Nat.sub_zero]
      simp
    · rw [Nat.zero_add]
      rw [List.getElem?_take] at e
      split at e
      · exact flat_at rows a1 i r e
      · cases e
theorem ls_hi {w n0 : Nat} {H : Heap} {l : Value} {rows : List (List Value)} (a : LsOf w n0 H l rows) (hp : 0 < w) {c : Nat} (hc : c ≤ rows.length) :
    ∃ lb, (∀ Γ, opA Γ (.slice w (.const l) (some (.const (.int .i64 c))) none none) [] H = some (lb, H)) ∧ RowsAt w H lb (rows.drop c) := by
  obtain ⟨a1, ⟨rfl, rfl⟩ | ⟨B, rfl, _, _, b4⟩⟩ := a
  · have : c = 0 := by simpa using hc
    subst this
    exact ⟨.slice none 0 0, fun Γ => rfl, .inl ⟨rfl, rfl⟩⟩
  · have hl := flat_len a1
    have he : isEnd H w ⟨B, 0, none⟩ rows.length = some true := by
      simp only [isEnd, b4, hl]
      simp [hp]
    refine ⟨.slice (some ⟨B, c * w, none⟩) (rows.length - c) (rows.length - c), fun Γ => ?_, .inr ⟨B, c * w, rows.length - c, _, by simp, b4, fun i r e => ?_⟩⟩
    · have h1 : (0 : Int) ≤ c ∧ (c : Int) ≤ rows.length := ⟨by omega, by omega⟩
      simp only [opA, pureA, ev, Option.map, sliceA, hiB, loB, boundA, h1, and_self, if_true, Int.toNat_natCast, he, Addr.add, Nat.le_refl]
      have : ¬ (rows.length = c ∧ true = false) := fun q => by cases q.2
      simp only [this, if_false]
      by_cases hz : c = 0
      · subst hz; simp
      · have : ¬ c * w = 0 := by
          intro q
          rcases Nat.mul_eq_zero.1 q with q | q <;> omega
        simp [this]
    · rw [List.getElem?_drop] at e
      have := flat_at rows a1 (c + i) r e
      rw [Nat.add_mul] at this
      exact this
/-! ### Calls -/
theorem enc_inj {a b : List Lo} (h : a.map Lo.enc = b.map Lo.enc) : a = b := by
  have e := congrArg (List.map fun r : List Value => match r with | [.int _ a, .int _ b, .int _ c, .int _ m, .bool d] => Lo.mk a b c m d | _ => ⟨0, 0, 0, 0, false⟩) h
  simpa [List.map_map, Function.comp_def, Lo.enc] using e
def Qof (args : List Value) (h : Heap) (v : Value) (h' : Heap) : Prop := ∃ s rows, args = [s] ∧ RowsAt 5 h s (rows.map Lo.enc) ∧ rows.length ≤ 1099511627776 ∧ v = (buc rows).v ∧ h' = h
def Qref (args : List Value) (h : Heap) (v : Value) (h' : Heap) : Prop := ∃ s rows, args = [s] ∧ RowsAt 5 h s (rows.map Lo.enc) ∧ rows.length ≤ 1099511627776 ∧ (∀ x ∈ rows, 0 ≤ x.m) ∧ v = (buc rows).v ∧ h' = h
def Qbal (args : List Value) (h : Heap) (v : Value) (h' : Heap) : Prop := ∃ s rows, args = [s] ∧ RowsAt 5 h s (rows.map Lo.enc) ∧ rows.length ≤ 1099511627776 ∧ v = .int .i64 (bal rows) ∧ h' = h
noncomputable def gK : Env := fun f args h => if f = 24 then rel Qof args h else if f = 26 then rel Qref args h else if f = 29 then rel Qbal args h else none
theorem gK_ok : EnvOk Try.prog gK := fun f => by
  intro args h v h' e
  unfold gK at e
  split at e
  · rename_i hf; subst hf
    obtain ⟨s, rows, rfl, hs, hl, rfl, rfl⟩ := rel_of e
    exact sim24 hs hl
  · split at e
    · rename_i hf; subst hf
      obtain ⟨s, rows, rfl, hs, hl, hm, rfl, rfl⟩ := rel_of e
      exact sim26 hs hl hm
    · split at e
      · rename_i hf; subst hf
        obtain ⟨s, rows, rfl, hs, hl, rfl, rfl⟩ := rel_of e
        exact sim29 hs hl
      · cases e
theorem gK_quiet {qt : List Nat} : QuietEnv qt gK := fun f args h v h' hf e => by
  unfold gK at e
  split at e
  · obtain ⟨s, rows, _, _, _, _, rfl⟩ := rel_of e
    rfl
  · split at e
    · obtain ⟨s, rows, _, _, _, _, _, rfl⟩ := rel_of e
      rfl
    · split at e
      · obtain ⟨s, rows, _, _, _, _, rfl⟩ := rel_of e
        rfl
      · cases e
theorem of_at {H : Heap} {s : Value} {rows : List Lo} (hs : RowsAt 5 H s (rows.map Lo.enc)) (hl : rows.length ≤ 1099511627776) : opA (Plain.env tblC gK) (.call 24 [(.const s)]) [] H = some ((.agg ⟨[(.int .i64 (buc rows).p), (.int .i64 (buc rows).q), (.int .i64 (buc rows).r), (.int .i64 (buc rows).s)]⟩), H) := by
  show rel Qof [s] H = _
  refine rel_some ⟨s, rows, rfl, hs, hl, rfl, rfl⟩ fun v1 h1 ⟨s', rows', e, hs', _, q1, q2⟩ => ?_
  cases e
  rw [enc_inj (hs.uniq hs')]
  exact ⟨q1, q2⟩
theorem ref_at {H : Heap} {s : Value} {rows : List Lo} (hs : RowsAt 5 H s (rows.map Lo.enc)) (hl : rows.length ≤ 1099511627776) (hm : ∀ x ∈ rows, 0 ≤ x.m) : opA (Plain.env tblC gK) (.call 26 [(.const s)]) [] H = some ((.agg ⟨[(.int .i64 (buc rows).p), (.int .i64 (buc rows).q), (.int .i64 (buc rows).r), (.int .i64 (buc rows).s)]⟩), H) := by
  show rel Qref [s] H = _
  refine rel_some ⟨s, rows, rfl, hs, hl, hm, rfl, rfl⟩ fun v1 h1 ⟨s', rows', e, hs', _, _, q1, q2⟩ => ?_
  cases e
  rw [enc_inj (hs.uniq hs')]
  exact ⟨q1, q2⟩
theorem bal_at {H : Heap} {s : Value} {rows : List Lo} (hs : RowsAt 5 H s (rows.map Lo.enc)) (hl : rows.length ≤ 1099511627776) : opA (Plain.env tblC gK) (.call 29 [(.const s)]) [] H = some ((.int .i64 (bal rows)), H) := by
  show rel Qbal [s] H = _
  refine rel_some ⟨s, rows, rfl, hs, hl, rfl, rfl⟩ fun v1 h1 ⟨s', rows', e, hs', _, q1, q2⟩ => ?_
  cases e
  rw [enc_inj (hs.uniq hs')]
  exact ⟨q1, q2⟩
/-! ### The two lists -/
def mAt (ms : List Int) (i : Nat) : Int := if i < ms.length then wn (ms.getD i 0) 0 12 else 0
def loAt (bs ms : List Int) (i : Nat) : Lo := ⟨0, wn (bs.getD i 0) 0 17179869184, 0, mAt ms i, false⟩
def loTo (bs ms : List Int) (n : Nat) : List Lo := (List.range n).map (loAt bs ms)
theorem loTo_succ (bs ms : List Int) (n : Nat) : (loTo bs ms (n + 1)).map Lo.enc = (loTo bs ms n).map Lo.enc ++ [(loAt bs ms n).enc] := by
  simp [loTo, List.range_succ]
theorem loTo_len (bs ms : List Int) (n : Nat) : (loTo bs ms n).length = n := by simp [loTo]
theorem loTo_m (bs ms : List Int) (n : Nat) : ∀ x ∈ loTo bs ms n, 0 ≤ x.m := by
  intro x hx
  simp only [loTo, List.mem_map] at hx
  obtain ⟨i, _, rfl⟩ := hx
  show 0 ≤ mAt ms i
  unfold mAt
  split
  · exact wn_lo (by omega)
  · exact Int.le_refl _
/-- cascade/cascadelaw10.LateBuckets -/
def il9 : FnIL := ⟨119, [.tmp 8],
  .seq (.reg [
     ⟨(some 8), none, .mov (.const (.bool false))⟩])
  (.seq (.reg [
     ⟨(some 9), none, .mov (.const (.slice none 0 0))⟩])
  (.seq (.reg [
     ⟨(some 10), none, .mov (.const (.slice none 0 0))⟩])
  (.seq (.seq (.reg [
      ⟨(some 11), none, .mov (.const (.int .i64 0))⟩])
   (.block 0
     (.loop
       (.seq (.seq (.reg [
           ⟨(some 20), none, .mov (.tmp 11)⟩,
           ⟨(some 21), none, .mov (.tmp 0)⟩,
           ⟨(some 22), none, .len (.tmp 21)⟩,
           ⟨(some 23), none, .bin .lss (.tmp 20) (.tmp 22)⟩,
           ⟨(some 24), none, .mov (.tmp 23)⟩,
           ⟨(some 25), (some (24, true)), .mov (.tmp 11)⟩,
           ⟨(some 26), (some (24, true)), .bin .lss (.tmp 25) (.const (.int .i64 30))⟩,
           ⟨(some 27), none, .pick (.tmp 24) (.tmp 26) (.const (.bool false))⟩])
        (.ite (.tmp 27)
          (.skip)
          (.exit 0)))
       (.seq (.block 1
          (.seq (.reg [
             ⟨(some 12), none, .mov (.const (.int .i64 0))⟩])
          (.seq (.seq (.reg [
              ⟨(some 30), none, .mov (.tmp 11)⟩,
              ⟨(some 31), none, .mov (.tmp 1)⟩,
              ⟨(some 32), none, .len (.tmp 31)⟩,
              ⟨(some 33), none, .bin .lss (.tmp 30) (.tmp 32)⟩])
           (.ite (.tmp 33)
             (.reg [
               ⟨(some 34), none, .mov (.tmp 1)⟩,
               ⟨(some 35), none, .mov (.tmp 11)⟩,
               ⟨(some 36), none, .iadr 1 none (.tmp 34) (.tmp 35)⟩,
               ⟨(some 37), none, .load (.tmp 36) none⟩,
               ⟨(some 38), none, .call 19 [(.tmp 37), (.const (.int .i64 0)), (.const (.int .i64 12))]⟩,
               ⟨(some 12), none, .mov (.tmp 38)⟩])
             (.skip)))
          (.seq (.reg [
             ⟨(some 39), none, .mov (.tmp 0)⟩,
             ⟨(some 40), none, .mov (.tmp 11)⟩,
             ⟨(some 41), none, .iadr 1 none (.tmp 39) (.tmp 40)⟩,
             ⟨(some 42), none, .load (.tmp 41) none⟩,
             ⟨(some 43), none, .call 19 [(.tmp 42), (.const (.int .i64 0)), (.const (.int .i64 17179869184))]⟩,
             ⟨(some 13), none, .mov (.tmp 43)⟩])
          (.seq (.reg [
             ⟨(some 44), none, .mov (.tmp 9)⟩,
             ⟨(some 45), none, .mov (.tmp 13)⟩,
             ⟨(some 46), none, .mov (.tmp 12)⟩,
             ⟨(some 47), none, .call 25 [(.tmp 45), (.tmp 46)]⟩,
             ⟨(some 48), none, .mkrow [(.int .i64 0), (.int .i64 0), (.int .i64 0), (.int .i64 0), (.bool false)] 1 [(0, 5, (.tmp 47))]⟩,
             ⟨(some 49), none, .append 5 40 (.tmp 44) (.tmp 48)⟩,
             ⟨(some 9), none, .mov (.tmp 49)⟩])
          (.reg [
            ⟨(some 50), none, .mov (.tmp 10)⟩,
            ⟨(some 51), none, .mov (.tmp 13)⟩,
            ⟨(some 52), none, .mov (.tmp 12)⟩,
            ⟨(some 53), none, .build [(.int .i64 0), (.int .i64 0), (.int .i64 0), (.int .i64 0), (.bool false)] [(1, 1, (.tmp 51)), (3, 1, (.tmp 52))]⟩,
            ⟨(some 54), none, .mkrow [(.int .i64 0), (.int .i64 0), (.int .i64 0), (.int .i64 0), (.bool false)] 1 [(0, 5, (.tmp 53))]⟩,
            ⟨(some 55), none, .append 5 40 (.tmp 50) (.tmp 54)⟩,
            ⟨(some 10), none, .mov (.tmp 55)⟩]))))))
       (.reg [
         ⟨(some 28), none, .mov (.tmp 11)⟩,
         ⟨(some 29), none, .bin .add (.tmp 28) (.const (.int .i64 1))⟩,
         ⟨(some 11), none, .mov (.tmp 29)⟩]))))))
  (.seq (.reg [
     ⟨(some 56), none, .mov (.tmp 2)⟩,
     ⟨(some 57), none, .mov (.tmp 9)⟩,
     ⟨(some 58), none, .len (.tmp 57)⟩,
     ⟨(some 59), none, .call 19 [(.tmp 56), (.const (.int .i64 0)), (.tmp 58)]⟩,
     ⟨(some 14), none, .mov (.tmp 59)⟩])
  (.seq (.dreg [
     ⟨(some 60), none, .mov (.tmp 9)⟩,
     ⟨(some 61), none, .call 24 [(.tmp 60)]⟩,
     ⟨(some 62), none, .mov (.tmp 9)⟩,
     ⟨(some 63), none, .mov (.tmp 14)⟩,
     ⟨(some 64), none, .slice 5 (.tmp 62) none (some (.tmp 63)) none⟩,
     ⟨(some 65), none, .call 24 [(.tmp 64)]⟩,
     ⟨(some 66), none, .mov (.tmp 9)⟩,
     ⟨(some 67), none, .mov (.tmp 14)⟩,
     ⟨(some 68), none, .slice 5 (.tmp 66) (some (.tmp 67)) none none⟩,
     ⟨(some 69), none, .call 24 [(.tmp 68)]⟩,
     ⟨(some 15), none, .alloc [(.int .i64 0), (.int .i64 0), (.int .i64 0), (.int .i64 0)]⟩,
     ⟨(some 16), none, .alloc [(.int .i64 0), (.int .i64 0), (.int .i64 0), (.int .i64 0)]⟩,
     ⟨(some 17), none, .alloc [(.int .i64 0), (.int .i64 0), (.int .i64 0), (.int .i64 0)]⟩,
     ⟨none, none, .store (.tmp 15) (.tmp 61) 4⟩,
     ⟨none, none, .store (.tmp 16) (.tmp 65) 4⟩,
     ⟨none, none, .store (.tmp 17) (.tmp 69) 4⟩] [(1, 10), (1, 11), (1, 12), (5, 10), (5, 11), (5, 12), (9, 10), (9, 11), (9, 12)])
  (.seq (.reg [
     ⟨(some 18), none, .mov (.const (.int .i64 0))⟩])
  (.seq (.seq (.reg [
      ⟨(some 70), none, .mov (.const (.int .i64 0))⟩])
   (.block 2
     (.loop
       (.seq (.reg [
          ⟨(some 71), none, .bin .lss (.tmp 70) (.const (.int .i64 4))⟩])
       (.seq (.ite (.tmp 71)
          (.skip)
          (.exit 2))
       (.seq (.block 3
          (.seq (.reg [
             ⟨(some 72), none, .mov (.tmp 70)⟩,
             ⟨(some 19), none, .mov (.tmp 72)⟩])
          (.seq (.seq (.dreg [
              ⟨(some 73), none, .mov (.tmp 19)⟩,
              ⟨(some 74), none, .iadr 1 (some 4) (.tmp 15) (.tmp 73)⟩,
              ⟨(some 75), none, .load (.tmp 74) none⟩,
              ⟨(some 76), none, .mov (.tmp 19)⟩,
              ⟨(some 77), none, .iadr 1 (some 4) (.tmp 16) (.tmp 76)⟩,
              ⟨(some 78), none, .load (.tmp 77) none⟩,
              ⟨(some 79), none, .mov (.tmp 19)⟩,
              ⟨(some 80), none, .iadr 1 (some 4) (.tmp 17) (.tmp 79)⟩,
              ⟨(some 81), none, .load (.tmp 80) none⟩,
              ⟨(some 82), none, .bin .add (.tmp 78) (.tmp 81)⟩,
              ⟨(some 83), none, .bin .neq (.tmp 75) (.tmp 82)⟩] [])
           (.ite (.tmp 83)
             (.seq (.reg [
                ⟨(some 8), none, .mov (.const (.bool false))⟩])
             (.ret))
             (.skip)))
          (.seq (.reg [
             ⟨(some 84), none, .mov (.tmp 19)⟩,
             ⟨(some 85), none, .mov (.tmp 3)⟩,
             ⟨(some 86), none, .bin .geq (.tmp 84) (.tmp 85)⟩])
          (.ite (.tmp 86)
            (.reg [
              ⟨(some 87), none, .mov (.tmp 18)⟩,
              ⟨(some 88), none, .mov (.tmp 19)⟩,
              ⟨(some 89), none, .iadr 1 (some 4) (.tmp 15) (.tmp 88)⟩,
              ⟨(some 90), none, .load (.tmp 89) none⟩,
              ⟨(some 91), none, .bin .add (.tmp 87) (.tmp 90)⟩,
              ⟨(some 18), none, .mov (.tmp 91)⟩])
            (.skip))))))
       (.reg [
         ⟨(some 92), none, .bin .add (.tmp 70) (.const (.int .i64 1))⟩,
         ⟨(some 70), none, .mov (.tmp 92)⟩])))))))
  (.seq (.dreg [
     ⟨(some 93), none, .load (.tmp 15) (some 4)⟩,
     ⟨(some 94), none, .mov (.tmp 10)⟩,
     ⟨(some 95), none, .call 26 [(.tmp 94)]⟩,
     ⟨(some 96), none, .eqv false (.cells [false, false, false, false]) (.tmp 93) (.tmp 95)⟩,
     ⟨(some 97), none, .mov (.tmp 96)⟩,
     ⟨(some 98), (some (97, true)), .load (.tmp 15) (some 4)⟩,
     ⟨(some 99), (some (97, true)), .mov (.tmp 3)⟩,
     ⟨(some 100), (some (97, true)), .call 27 [(.tmp 98), (.tmp 99)]⟩,
     ⟨(some 101), (some (97, true)), .mov (.tmp 18)⟩,
     ⟨(some 102), (some (97, true)), .bin .eql (.tmp 100) (.tmp 101)⟩,
     ⟨(some 103), none, .pick (.tmp 97) (.tmp 102) (.const (.bool false))⟩,
     ⟨(some 104), none, .mov (.tmp 103)⟩,
     ⟨(some 105), (some (104, true)), .load (.tmp 15) (some 4)⟩,
     ⟨(some 106), (some (104, true)), .call 28 [(.tmp 105)]⟩,
     ⟨(some 107), (some (104, true)), .mov (.tmp 10)⟩,
     ⟨(some 108), (some (104, true)), .call 29 [(.tmp 107)]⟩,
     ⟨(some 109), (some (104, true)), .bin .eql (.tmp 106) (.tmp 108)⟩,
     ⟨(some 110), none, .pick (.tmp 104) (.tmp 109) (.const (.bool false))⟩,
     ⟨(some 111), none, .mov (.tmp 110)⟩,
     ⟨(some 112), (some (111, true)), .call 24 [(.const (.slice none 0 0))]⟩,
     ⟨(some 113), (some (111, true)), .build [(.int .i64 0), (.int .i64 0), (.int .i64 0), (.int .i64 0)] []⟩,
     ⟨(some 114), (some (111, true)), .eqv false (.cells [false, false, false, false]) (.tmp 112) (.tmp 113)⟩,
     ⟨(some 115), none, .pick (.tmp 111) (.tmp 114) (.const (.bool false))⟩,
     ⟨(some 116), none, .mov (.tmp 115)⟩,
     ⟨(some 117), (some (116, true)), .call 7 []⟩,
     ⟨(some 118), none, .pick (.tmp 116) (.tmp 117) (.const (.bool false))⟩,
     ⟨(some 8), none, .mov (.tmp 118)⟩] [])
  (.ret)))))))))⟩
theorem st9 : stF Try.prog qtB 9 = some il9 := by kernel_rfl
def body9_0 : IL := .seq (.seq (.reg [
      ⟨(some 20), none, .mov (.tmp 11)⟩,
      ⟨(some 21), none, .mov (.tmp 0)⟩,
      ⟨(some 22), none, .len (.tmp 21)⟩,
      ⟨(some 23), none, .bin .lss (.tmp 20) (.tmp 22)⟩,
      ⟨(some 24), none, .mov (.tmp 23)⟩,
      ⟨(some 25), (some (24, true)), .mov (.tmp 11)⟩,
      ⟨(some 26), (some (24, true)), .bin .lss (.tmp 25) (.const (.int .i64 30))⟩,
      ⟨(some 27), none, .pick (.tmp 24) (.tmp 26) (.const (.bool false))⟩])
   (.ite (.tmp 27)
     (.skip)
     (.exit 0)))
  (.seq (.block 1
     (.seq (.reg [
        ⟨(some 12), none, .mov (.const (.int .i64 0))⟩])
     (.seq (.seq (.reg [
         ⟨(some 30), none, .mov (.tmp 11)⟩,
         ⟨(some 31), none, .mov (.tmp 1)⟩,
         ⟨(some 32), none, .len (.tmp 31)⟩,
         ⟨(some 33), none, .bin .lss (.tmp 30) (.tmp 32)⟩])
      (.ite (.tmp 33)
        (.reg [
          ⟨(some 34), none, .mov (.tmp 1)⟩,
          ⟨(some 35), none, .mov (.tmp 11)⟩,
          ⟨(some 36), none, .iadr 1 none (.tmp 34) (.tmp 35)⟩,
          ⟨(some 37), none, .load (.tmp 36) none⟩,
          ⟨(some 38), none, .call 19 [(.tmp 37), (.const (.int .i64 0)), (.const (.int .i64 12))]⟩,
          ⟨(some 12), none, .mov (.tmp 38)⟩])
        (.skip)))
     (.seq (.reg [
        ⟨(some 39), none, .mov (.tmp 0)⟩,
        ⟨(some 40), none, .mov (.tmp 11)⟩,
        ⟨(some 41), none, .iadr 1 none (.tmp 39) (.tmp 40)⟩,
        ⟨(some 42), none, .load (.tmp 41) none⟩,
        ⟨(some 43), none, .call 19 [(.tmp 42), (.const (.int .i64 0)), (.const (.int .i64 17179869184))]⟩,
        ⟨(some 13), none, .mov (.tmp 43)⟩])
     (.seq (.reg [
        ⟨(some 44), none, .mov (.tmp 9)⟩,
        ⟨(some 45), none, .mov (.tmp 13)⟩,
        ⟨(some 46), none, .mov (.tmp 12)⟩,
        ⟨(some 47), none, .call 25 [(.tmp 45), (.tmp 46)]⟩,
        ⟨(some 48), none, .mkrow [(.int .i64 0), (.int .i64 0), (.int .i64 0), (.int .i64 0), (.bool false)] 1 [(0, 5, (.tmp 47))]⟩,
        ⟨(some 49), none, .append 5 40 (.tmp 44) (.tmp 48)⟩,
        ⟨(some 9), none, .mov (.tmp 49)⟩])
     (.reg [
       ⟨(some 50), none, .mov (.tmp 10)⟩,
       ⟨(some 51), none, .mov (.tmp 13)⟩,
       ⟨(some 52), none, .mov (.tmp 12)⟩,
       ⟨(some 53), none, .build [(.int .i64 0), (.int .i64 0), (.int .i64 0), (.int .i64 0), (.bool false)] [(1, 1, (.tmp 51)), (3, 1, (.tmp 52))]⟩,
       ⟨(some 54), none, .mkrow [(.int .i64 0), (.int .i64 0), (.int .i64 0), (.int .i64 0), (.bool false)] 1 [(0, 5, (.tmp 53))]⟩,
       ⟨(some 55), none, .append 5 40 (.tmp 50) (.tmp 54)⟩,
       ⟨(some 10), none, .mov (.tmp 55)⟩]))))))
  (.reg [
    ⟨(some 28), none, .mov (.tmp 11)⟩,
    ⟨(some 29), none, .bin .add (.tmp 28) (.const (.int .i64 1))⟩,
    ⟨(some 11), none, .mov (.tmp 29)⟩]))
def hn9y (s0 s1 l r l2 r2 q0 q1 : Value) (a2 a3 n nm i z0 z1 : Int) (H H2 H3 : Heap) : Hj := (.use 22 (.int .i64 n) H (.join 3 (.con (.con (.con .nil))) (.con (.con (.con .nil))) (.yes (.use 32 (.int .i64 nm) H (.yes (.use 36 q1 H (.use 37 (.int .i64 z1) H (.use 41 q0 H (.use 42 (.int .i64 z0) H (.use 49 l2 H2 (.use 55 r2 H3 .nil)))))))))))
theorem tree9y (s0 s1 l r l2 r2 q0 q1 : Value) (a2 a3 n nm i z0 z1 : Int) (H H2 H3 : Heap) : pieceT tblC gK 100 (fun i => exL i body9_0 || inL [2, 3, 8, 9, 10] i) body9_0 (hn9y s0 s1 l r l2 r2 q0 q1 a2 a3 n nm i z0 z1 H H2 H3) (fr 119 [(0, s0), (1, s1), (2, (.int .i64 a2)), (3, (.int .i64 a3)), (8, (.bool false)), (9, l), (10, r), (11, (.int .i64 i))]) H =
(.claim (opA (Plain.env tblC gK) (.len (.const s0)) [] H = some ((.int .i64 n), H))
 (.req (bif (decide (i < n)) then true else true) (.req (bif (decide (i < n)) then (decide (i < 30)) else false) (.claim (opA (Plain.env tblC gK) (.len (.const s1)) [] H = some ((.int .i64 nm), H))
 (.req (decide (i < nm)) (.claim (opA (Plain.env tblC gK) (.iadr 1 none (.const s1) (.const (.int .i64 i))) [] H = some (q1, H))
 (.claim (opA (Plain.env tblC gK) (.load (.const q1) none) [] H = some ((.int .i64 z1), H))
 (.req (preWithin 0 12) (.claim (opA (Plain.env tblC gK) (.iadr 1 none (.const s0) (.const (.int .i64 i))) [] H = some (q0, H))
 (.claim (opA (Plain.env tblC gK) (.load (.const q0) none) [] H = some ((.int .i64 z0), H))
 (.req (preWithin 0 17179869184) (.req true (.claim (opA (Plain.env tblC gK) (.append 5 40 (.const l) (.const (.slice (some ⟨(H).length, 0, none⟩) 1 1))) [] (H ++ [some (Blk.mk .fix [(.int .i64 0), (.int .i64 (wn z0 0 17179869184)), (.int .i64 0), (.int .i64 (wn z1 0 12)), (.bool false)])]) = some (l2, H2))
 (.claim (opA (Plain.env tblC gK) (.append 5 40 (.const r) (.const (.slice (some ⟨(H2).length, 0, none⟩) 1 1))) [] (H2 ++ [some (Blk.mk .fix [(.int .i64 0), (.int .i64 (wn z0 0 17179869184)), (.int .i64 0), (.int .i64 (wn z1 0 12)), (.bool false)])]) = some (r2, H3))
 (.ret (pk .normal (fr 119 [(0, s0), (1, s1), (2, (.int .i64 a2)), (3, (.int .i64 a3)), (8, (.bool false)), (9, l2), (10, r2), (11, (.int .i64 (IntKind.wrap .i64 (i + 1))))])) H3))))))))))))))) := by kernel_rfl
def hn9n (s0 s1 l r l2 r2 q0 q1 : Value) (a2 a3 n nm i z0 z1 : Int) (H H2 H3 : Heap) : Hj := (.use 22 (.int .i64 n) H (.join 3 (.con (.con (.con .nil))) (.con (.con (.con .nil))) (.yes (.use 32 (.int .i64 nm) H (.no (.use 41 q0 H (.use 42 (.int .i64 z0) H (.use 49 l2 H2 (.use 55 r2 H3 .nil)))))))))
theorem tree9n (s0 s1 l r l2 r2 q0 q1 : Value) (a2 a3 n nm i z0 z1 : Int) (H H2 H3 : Heap) : pieceT tblC gK 100 (fun i => exL i body9_0 || inL [2, 3, 8, 9, 10] i) body9_0 (hn9n s0 s1 l r l2 r2 q0 q1 a2 a3 n nm i z0 z1 H H2 H3) (fr 119 [(0, s0), (1, s1), (2, (.int .i64 a2)), (3, (.int .i64 a3)), (8, (.bool false)), (9, l), (10, r), (11, (.int .i64 i))]) H =
(.claim (opA (Plain.env tblC gK) (.len (.const s0)) [] H = some ((.int .i64 n), H))
 (.req (bif (decide (i < n)) then true else true) (.req (bif (decide (i < n)) then (decide (i < 30)) else false) (.claim (opA (Plain.env tblC gK) (.len (.const s1)) [] H = some ((.int .i64 nm), H))
 (.req (!(decide (i < nm))) (.claim (opA (Plain.env tblC gK) (.iadr 1 none (.const s0) (.const (.int .i64 i))) [] H = some (q0, H))
 (.claim (opA (Plain.env tblC gK) (.load (.const q0) none) [] H = some ((.int .i64 z0), H))
 (.req (preWithin 0 17179869184) (.req true (.claim (opA (Plain.env tblC gK) (.append 5 40 (.const l) (.const (.slice (some ⟨(H).length, 0, none⟩) 1 1))) [] (H ++ [some (Blk.mk .fix [(.int .i64 0), (.int .i64 (wn z0 0 17179869184)), (.int .i64 0), (.int .i64 0), (.bool false)])]) = some (l2, H2))
 (.claim (opA (Plain.env tblC gK) (.append 5 40 (.const r) (.const (.slice (some ⟨(H2).length, 0, none⟩) 1 1))) [] (H2 ++ [some (Blk.mk .fix [(.int .i64 0), (.int .i64 (wn z0 0 17179869184)), (.int .i64 0), (.int .i64 0), (.bool false)])]) = some (r2, H3))
 (.ret (pk .normal (fr 119 [(0, s0), (1, s1), (2, (.int .i64 a2)), (3, (.int .i64 a3)), (8, (.bool false)), (9, l2), (10, r2), (11, (.int .i64 (IntKind.wrap .i64 (i + 1))))])) H3)))))))))))) := by kernel_rfl
def hn9x (s0 s1 l r l2 r2 q0 q1 : Value) (a2 a3 n nm i z0 z1 : Int) (H H2 H3 : Heap) : Hj := (.use 22 (.int .i64 n) H (.join 3 (.con (.con (.con .nil))) (.con (.con (.con .nil))) (.no .nil)))
theorem tree9x (s0 s1 l r l2 r2 q0 q1 : Value) (a2 a3 n nm i z0 z1 : Int) (H H2 H3 : Heap) : pieceT tblC gK 100 (fun i => exL i body9_0 || inL [2, 3, 8, 9, 10] i) body9_0 (hn9x s0 s1 l r l2 r2 q0 q1 a2 a3 n nm i z0 z1 H H2 H3) (fr 119 [(0, s0), (1, s1), (2, (.int .i64 a2)), (3, (.int .i64 a3)), (8, (.bool false)), (9, l), (10, r), (11, (.int .i64 i))]) H =
(.claim (opA (Plain.env tblC gK) (.len (.const s0)) [] H = some ((.int .i64 n), H))
 (.req (bif (decide (i < n)) then true else true) (.req (!(bif (decide (i < n)) then (decide (i < 30)) else false)) (.ret (pk (.exit 0) (fr 119 [(0, s0), (1, s1), (2, (.int .i64 a2)), (3, (.int .i64 a3)), (8, (.bool false)), (9, l), (10, r), (11, (.int .i64 i))])) H)))) := by kernel_rfl
def hn9k0 (s0 s1 l r lb lc : Value) (a2 a3 n bl : Int) (x0 x1 x2 x3 : Int) (y0 y1 y2 y3 : Int) (z0 z1 z2 z3 : Int) (H H1 : Heap) : Hj := (.lp 0 [2, 3, 8, 9, 10] (fr 119 [(2, (.int .i64 a2)), (3, (.int .i64 a3)), (8, (.bool false)), (9, l), (10, r)]) H1 (.use 58 (.int .i64 n) H1 (.crs [none, some ((.agg ⟨[(.int .i64 x0), (.int .i64 x1), (.int .i64 x2), (.int .i64 x3)]⟩), H1), none, none, some (lb, H1), some ((.agg ⟨[(.int .i64 y0), (.int .i64 y1), (.int .i64 y2), (.int .i64 y3)]⟩), H1), none, none, some (lc, H1), some ((.agg ⟨[(.int .i64 z0), (.int .i64 z1), (.int .i64 z2), (.int .i64 z3)]⟩), H1), none, none, none, some ((.tuple ⟨[]⟩), (((H1 ++ [some (Blk.mk .fix [(.int .i64 x0), (.int .i64 x1), (.int .i64 x2), (.int .i64 x3)])]) ++ [some (Blk.mk .fix [(.int .i64 0), (.int .i64 0), (.int .i64 0), (.int .i64 0)])]) ++ [some (Blk.mk .fix [(.int .i64 0), (.int .i64 0), (.int .i64 0), (.int .i64 0)])])), some ((.tuple ⟨[]⟩), (((H1 ++ [some (Blk.mk .fix [(.int .i64 x0), (.int .i64 x1), (.int .i64 x2), (.int .i64 x3)])]) ++ [some (Blk.mk .fix [(.int .i64 y0), (.int .i64 y1), (.int .i64 y2), (.int .i64 y3)])]) ++ [some (Blk.mk .fix [(.int .i64 0), (.int .i64 0), (.int .i64 0), (.int .i64 0)])])), some ((.tuple ⟨[]⟩), (((H1 ++ [some (Blk.mk .fix [(.int .i64 x0), (.int .i64 x1), (.int .i64 x2), (.int .i64 x3)])]) ++ [some (Blk.mk .fix [(.int .i64 y0), (.int .i64 y1), (.int .i64 y2), (.int .i64 y3)])]) ++ [some (Blk.mk .fix [(.int .i64 z0), (.int .i64 z1), (.int .i64 z2), (.int .i64 z3)])]))] (.con (.use 75 (.int .i64 x0) (((H1 ++ [some (Blk.mk .fix [(.int .i64 x0), (.int .i64 x1), (.int .i64 x2), (.int .i64 x3)])]) ++ [some (Blk.mk .fix [(.int .i64 y0), (.int .i64 y1), (.int .i64 y2), (.int .i64 y3)])]) ++ [some (Blk.mk .fix [(.int .i64 z0), (.int .i64 z1), (.int .i64 z2), (.int .i64 z3)])]) (.use 78 (.int .i64 y0) (((H1 ++ [some (Blk.mk .fix [(.int .i64 x0), (.int .i64 x1), (.int .i64 x2), (.int .i64 x3)])]) ++ [some (Blk.mk .fix [(.int .i64 y0), (.int .i64 y1), (.int .i64 y2), (.int .i64 y3)])]) ++ [some (Blk.mk .fix [(.int .i64 z0), (.int .i64 z1), (.int .i64 z2), (.int .i64 z3)])]) (.use 81 (.int .i64 z0) (((H1 ++ [some (Blk.mk .fix [(.int .i64 x0), (.int .i64 x1), (.int .i64 x2), (.int .i64 x3)])]) ++ [some (Blk.mk .fix [(.int .i64 y0), (.int .i64 y1), (.int .i64 y2), (.int .i64 y3)])]) ++ [some (Blk.mk .fix [(.int .i64 z0), (.int .i64 z1), (.int .i64 z2), (.int .i64 z3)])]) (.no (.yes (.use 90 (.int .i64 x0) (((H1 ++ [some (Blk.mk .fix [(.int .i64 x0), (.int .i64 x1), (.int .i64 x2), (.int .i64 x3)])]) ++ [some (Blk.mk .fix [(.int .i64 y0), (.int .i64 y1), (.int .i64 y2), (.int .i64 y3)])]) ++ [some (Blk.mk .fix [(.int .i64 z0), (.int .i64 z1), (.int .i64 z2), (.int .i64 z3)])]) (.con (.use 75 (.int .i64 x1) (((H1 ++ [some (Blk.mk .fix [(.int .i64 x0), (.int .i64 x1), (.int .i64 x2), (.int .i64 x3)])]) ++ [some (Blk.mk .fix [(.int .i64 y0), (.int .i64 y1), (.int .i64 y2), (.int .i64 y3)])]) ++ [some (Blk.mk .fix [(.int .i64 z0), (.int .i64 z1), (.int .i64 z2), (.int .i64 z3)])]) (.use 78 (.int .i64 y1) (((H1 ++ [some (Blk.mk .fix [(.int .i64 x0), (.int .i64 x1), (.int .i64 x2), (.int .i64 x3)])]) ++ [some (Blk.mk .fix [(.int .i64 y0), (.int .i64 y1), (.int .i64 y2), (.int .i64 y3)])]) ++ [some (Blk.mk .fix [(.int .i64 z0), (.int .i64 z1), (.int .i64 z2), (.int .i64 z3)])]) (.use 81 (.int .i64 z1) (((H1 ++ [some (Blk.mk .fix [(.int .i64 x0), (.int .i64 x1), (.int .i64 x2), (.int .i64 x3)])]) ++ [some (Blk.mk .fix [(.int .i64 y0), (.int .i64 y1), (.int .i64 y2), (.int .i64 y3)])]) ++ [some (Blk.mk .fix [(.int .i64 z0), (.int .i64 z1), (.int .i64 z2), (.int .i64 z3)])]) (.no (.yes (.use 90 (.int .i64 x1) (((H1 ++ [some (Blk.mk .fix [(.int .i64 x0), (.int .i64 x1), (.int .i64 x2), (.int .i64 x3)])]) ++ [some (Blk.mk .fix [(.int .i64 y0), (.int .i64 y1), (.int .i64 y2), (.int .i64 y3)])]) ++ [some (Blk.mk .fix [(.int .i64 z0), (.int .i64 z1), (.int .i64 z2), (.int .i64 z3)])]) (.con (.use 75 (.int .i64 x2) (((H1 ++ [some (Blk.mk .fix [(.int .i64 x0), (.int .i64 x1), (.int .i64 x2), (.int .i64 x3)])]) ++ [some (Blk.mk .fix [(.int .i64 y0), (.int .i64 y1), (.int .i64 y2), (.int .i64 y3)])]) ++ [some (Blk.mk .fix [(.int .i64 z0), (.int .i64 z1), (.int .i64 z2), (.int .i64 z3)])]) (.use 78 (.int .i64 y2) (((H1 ++ [some (Blk.mk .fix [(.int .i64 x0), (.int .i64 x1), (.int .i64 x2), (.int .i64 x3)])]) ++ [some (Blk.mk .fix [(.int .i64 y0), (.int .i64 y1), (.int .i64 y2), (.int .i64 y3)])]) ++ [some (Blk.mk .fix [(.int .i64 z0), (.int .i64 z1), (.int .i64 z2), (.int .i64 z3)])]) (.use 81 (.int .i64 z2) (((H1 ++ [some (Blk.mk .fix [(.int .i64 x0), (.int .i64 x1), (.int .i64 x2), (.int .i64 x3)])]) ++ [some (Blk.mk .fix [(.int .i64 y0), (.int .i64 y1), (.int .i64 y2), (.int .i64 y3)])]) ++ [some (Blk.mk .fix [(.int .i64 z0), (.int .i64 z1), (.int .i64 z2), (.int .i64 z3)])]) (.no (.yes (.use 90 (.int .i64 x2) (((H1 ++ [some (Blk.mk .fix [(.int .i64 x0), (.int .i64 x1), (.int .i64 x2), (.int .i64 x3)])]) ++ [some (Blk.mk .fix [(.int .i64 y0), (.int .i64 y1), (.int .i64 y2), (.int .i64 y3)])]) ++ [some (Blk.mk .fix [(.int .i64 z0), (.int .i64 z1), (.int .i64 z2), (.int .i64 z3)])]) (.con (.use 75 (.int .i64 x3) (((H1 ++ [some (Blk.mk .fix [(.int .i64 x0), (.int .i64 x1), (.int .i64 x2), (.int .i64 x3)])]) ++ [some (Blk.mk .fix [(.int .i64 y0), (.int .i64 y1), (.int .i64 y2), (.int .i64 y3)])]) ++ [some (Blk.mk .fix [(.int .i64 z0), (.int .i64 z1), (.int .i64 z2), (.int .i64 z3)])]) (.use 78 (.int .i64 y3) (((H1 ++ [some (Blk.mk .fix [(.int .i64 x0), (.int .i64 x1), (.int .i64 x2), (.int .i64 x3)])]) ++ [some (Blk.mk .fix [(.int .i64 y0), (.int .i64 y1), (.int .i64 y2), (.int .i64 y3)])]) ++ [some (Blk.mk .fix [(.int .i64 z0), (.int .i64 z1), (.int .i64 z2), (.int .i64 z3)])]) (.use 81 (.int .i64 z3) (((H1 ++ [some (Blk.mk .fix [(.int .i64 x0), (.int .i64 x1), (.int .i64 x2), (.int .i64 x3)])]) ++ [some (Blk.mk .fix [(.int .i64 y0), (.int .i64 y1), (.int .i64 y2), (.int .i64 y3)])]) ++ [some (Blk.mk .fix [(.int .i64 z0), (.int .i64 z1), (.int .i64 z2), (.int .i64 z3)])]) (.no (.yes (.use 90 (.int .i64 x3) (((H1 ++ [some (Blk.mk .fix [(.int .i64 x0), (.int .i64 x1), (.int .i64 x2), (.int .i64 x3)])]) ++ [some (Blk.mk .fix [(.int .i64 y0), (.int .i64 y1), (.int .i64 y2), (.int .i64 y3)])]) ++ [some (Blk.mk .fix [(.int .i64 z0), (.int .i64 z1), (.int .i64 z2), (.int .i64 z3)])]) (.con (.use 93 (.agg ⟨[(.int .i64 x0), (.int .i64 x1), (.int .i64 x2), (.int .i64 x3)]⟩) (((H1 ++ [some (Blk.mk .fix [(.int .i64 x0), (.int .i64 x1), (.int .i64 x2), (.int .i64 x3)])]) ++ [some (Blk.mk .fix [(.int .i64 y0), (.int .i64 y1), (.int .i64 y2), (.int .i64 y3)])]) ++ [some (Blk.mk .fix [(.int .i64 z0), (.int .i64 z1), (.int .i64 z2), (.int .i64 z3)])]) (.use 95 (.agg ⟨[(.int .i64 x0), (.int .i64 x1), (.int .i64 x2), (.int .i64 x3)]⟩) (((H1 ++ [some (Blk.mk .fix [(.int .i64 x0), (.int .i64 x1), (.int .i64 x2), (.int .i64 x3)])]) ++ [some (Blk.mk .fix [(.int .i64 y0), (.int .i64 y1), (.int .i64 y2), (.int .i64 y3)])]) ++ [some (Blk.mk .fix [(.int .i64 z0), (.int .i64 z1), (.int .i64 z2), (.int .i64 z3)])]) (.yes (.use 98 (.agg ⟨[(.int .i64 x0), (.int .i64 x1), (.int .i64 x2), (.int .i64 x3)]⟩) (((H1 ++ [some (Blk.mk .fix [(.int .i64 x0), (.int .i64 x1), (.int .i64 x2), (.int .i64 x3)])]) ++ [some (Blk.mk .fix [(.int .i64 y0), (.int .i64 y1), (.int .i64 y2), (.int .i64 y3)])]) ++ [some (Blk.mk .fix [(.int .i64 z0), (.int .i64 z1), (.int .i64 z2), (.int .i64 z3)])]) (.con (.con (.con (.con (.con (.yes (.use 105 (.agg ⟨[(.int .i64 x0), (.int .i64 x1), (.int .i64 x2), (.int .i64 x3)]⟩) (((H1 ++ [some (Blk.mk .fix [(.int .i64 x0), (.int .i64 x1), (.int .i64 x2), (.int .i64 x3)])]) ++ [some (Blk.mk .fix [(.int .i64 y0), (.int .i64 y1), (.int .i64 y2), (.int .i64 y3)])]) ++ [some (Blk.mk .fix [(.int .i64 z0), (.int .i64 z1), (.int .i64 z2), (.int .i64 z3)])]) (.con (.con (.con (.use 108 (.int .i64 bl) (((H1 ++ [some (Blk.mk .fix [(.int .i64 x0), (.int .i64 x1), (.int .i64 x2), (.int .i64 x3)])]) ++ [some (Blk.mk .fix [(.int .i64 y0), (.int .i64 y1), (.int .i64 y2), (.int .i64 y3)])]) ++ [some (Blk.mk .fix [(.int .i64 z0), (.int .i64 z1), (.int .i64 z2), (.int .i64 z3)])]) (.con (.con (.yes (.use 112 (.agg ⟨[(.int .i64 0), (.int .i64 0), (.int .i64 0), (.int .i64 0)]⟩) (((H1 ++ [some (Blk.mk .fix [(.int .i64 x0), (.int .i64 x1), (.int .i64 x2), (.int .i64 x3)])]) ++ [some (Blk.mk .fix [(.int .i64 y0), (.int .i64 y1), (.int .i64 y2), (.int .i64 y3)])]) ++ [some (Blk.mk .fix [(.int .i64 z0), (.int .i64 z1), (.int .i64 z2), (.int .i64 z3)])]) (.con (.con (.con (.con (.con .nil))))))))))))))))))))))))))))))))))))))))))))))))))))))))
theorem tree9k0 (s0 s1 l r lb lc : Value) (a2 a3 n bl : Int) (x0 x1 x2 x3 : Int) (y0 y1 y2 y3 : Int) (z0 z1 z2 z3 : Int) (H H1 : Heap) : pieceT tblC gK 200 (resLv [.tmp 8]) il9.body (hn9k0 s0 s1 l r lb lc a2 a3 n bl x0 x1 x2 x3 y0 y1 y2 y3 z0 z1 z2 z3 H H1) (fr 119 [(0, s0), (1, s1), (2, (.int .i64 a2)), (3, (.int .i64 a3))]) H =
(.claim (Wp (Plain.env tblC gK) (inL [2, 3, 8, 9, 10]) (.block 0 (.loop body9_0)) (fr 119 [(0, s0), (1, s1), (2, (.int .i64 a2)), (3, (.int .i64 a3)), (8, (.bool false)), (9, (.slice none 0 0)), (10, (.slice none 0 0)), (11, (.int .i64 0))]) H fun e s h' => e = .normal ∧ s = (fr 119 [(2, (.int .i64 a2)), (3, (.int .i64 a3)), (8, (.bool false)), (9, l), (10, r)]) ∧ h' = H1)
 (.claim (opA (Plain.env tblC gK) (.len (.const l)) [] H1 = some ((.int .i64 n), H1))
 (.req (preWithin 0 n) (.req true (.claim (opA (Plain.env tblC gK) (.call 24 [(.const l)]) [] H1 = some ((.agg ⟨[(.int .i64 x0), (.int .i64 x1), (.int .i64 x2), (.int .i64 x3)]⟩), H1))
 (.req true (.req true (.claim (opA (Plain.env tblC gK) (.slice 5 (.const l) none (some (.const (.int .i64 (wn a2 0 n)))) none) [] H1 = some (lb, H1))
 (.claim (opA (Plain.env tblC gK) (.call 24 [(.const lb)]) [] H1 = some ((.agg ⟨[(.int .i64 y0), (.int .i64 y1), (.int .i64 y2), (.int .i64 y3)]⟩), H1))
 (.req true (.req true (.claim (opA (Plain.env tblC gK) (.slice 5 (.const l) (some (.const (.int .i64 (wn a2 0 n)))) none none) [] H1 = some (lc, H1))
 (.claim (opA (Plain.env tblC gK) (.call 24 [(.const lc)]) [] H1 = some ((.agg ⟨[(.int .i64 z0), (.int .i64 z1), (.int .i64 z2), (.int .i64 z3)]⟩), H1))
 (.req true (.req true (.req true (.claim (opA (Plain.env tblC gK) (.store (.const (.pointer (some ⟨(H1).length, 0, none⟩))) (.const (.agg ⟨[(.int .i64 x0), (.int .i64 x1), (.int .i64 x2), (.int .i64 x3)]⟩)) 4) [] (((H1 ++ [some (Blk.mk .fix [(.int .i64 0), (.int .i64 0), (.int .i64 0), (.int .i64 0)])]) ++ [some (Blk.mk .fix [(.int .i64 0), (.int .i64 0), (.int .i64 0), (.int .i64 0)])]) ++ [some (Blk.mk .fix [(.int .i64 0), (.int .i64 0), (.int .i64 0), (.int .i64 0)])]) = some ((.tuple ⟨[]⟩), (((H1 ++ [some (Blk.mk .fix [(.int .i64 x0), (.int .i64 x1), (.int .i64 x2), (.int .i64 x3)])]) ++ [some (Blk.mk .fix [(.int .i64 0), (.int .i64 0), (.int .i64 0), (.int .i64 0)])]) ++ [some (Blk.mk .fix [(.int .i64 0), (.int .i64 0), (.int .i64 0), (.int .i64 0)])])))
 (.claim (opA (Plain.env tblC gK) (.store (.const (.pointer (some ⟨((H1 ++ [some (Blk.mk .fix [(.int .i64 0), (.int .i64 0), (.int .i64 0), (.int .i64 0)])])).length, 0, none⟩))) (.const (.agg ⟨[(.int .i64 y0), (.int .i64 y1), (.int .i64 y2), (.int .i64 y3)]⟩)) 4) [] (((H1 ++ [some (Blk.mk .fix [(.int .i64 x0), (.int .i64 x1), (.int .i64 x2), (.int .i64 x3)])]) ++ [some (Blk.mk .fix [(.int .i64 0), (.int .i64 0), (.int .i64 0), (.int .i64 0)])]) ++ [some (Blk.mk .fix [(.int .i64 0), (.int .i64 0), (.int .i64 0), (.int .i64 0)])]) = some ((.tuple ⟨[]⟩), (((H1 ++ [some (Blk.mk .fix [(.int .i64 x0), (.int .i64 x1), (.int .i64 x2), (.int .i64 x3)])]) ++ [some (Blk.mk .fix [(.int .i64 y0), (.int .i64 y1), (.int .i64 y2), (.int .i64 y3)])]) ++ [some (Blk.mk .fix [(.int .i64 0), (.int .i64 0), (.int .i64 0), (.int .i64 0)])])))
 (.claim (opA (Plain.env tblC gK) (.store (.const (.pointer (some ⟨(((H1 ++ [some (Blk.mk .fix [(.int .i64 0), (.int .i64 0), (.int .i64 0), (.int .i64 0)])]) ++ [some (Blk.mk .fix [(.int .i64 0), (.int .i64 0), (.int .i64 0), (.int .i64 0)])])).length, 0, none⟩))) (.const (.agg ⟨[(.int .i64 z0), (.int .i64 z1), (.int .i64 z2), (.int .i64 z3)]⟩)) 4) [] (((H1 ++ [some (Blk.mk .fix [(.int .i64 x0), (.int .i64 x1), (.int .i64 x2), (.int .i64 x3)])]) ++ [some (Blk.mk .fix [(.int .i64 y0), (.int .i64 y1), (.int .i64 y2), (.int .i64 y3)])]) ++ [some (Blk.mk .fix [(.int .i64 0), (.int .i64 0), (.int .i64 0), (.int .i64 0)])]) = some ((.tuple ⟨[]⟩), (((H1 ++ [some (Blk.mk .fix [(.int .i64 x0), (.int .i64 x1), (.int .i64 x2), (.int .i64 x3)])]) ++ [some (Blk.mk .fix [(.int .i64 y0), (.int .i64 y1), (.int .i64 y2), (.int .i64 y3)])]) ++ [some (Blk.mk .fix [(.int .i64 z0), (.int .i64 z1), (.int .i64 z2), (.int .i64 z3)])])))
 (.claim ((∃ h2, opA (Plain.env tblC gK) (.call 24 [(.const l)]) [] (H1 ++ [some (Blk.mk .fix [(.int .i64 0), (.int .i64 0), (.int .i64 0), (.int .i64 0)])]) = some ((.agg ⟨[(.int .i64 x0), (.int .i64 x1), (.int .i64 x2), (.int .i64 x3)]⟩), h2)) ∧ eqV (.agg ⟨[(.int .i64 x0), (.int .i64 x1), (.int .i64 x2), (.int .i64 x3)]⟩) (.agg ⟨[(.int .i64 x0), (.int .i64 x1), (.int .i64 x2), (.int .i64 x3)]⟩) = true)
 (.claim ((∃ h2, opA (Plain.env tblC gK) (.call 24 [(.const l)]) [] ((H1 ++ [some (Blk.mk .fix [(.int .i64 0), (.int .i64 0), (.int .i64 0), (.int .i64 0)])]) ++ [some (Blk.mk .fix [(.int .i64 0), (.int .i64 0), (.int .i64 0), (.int .i64 0)])]) = some ((.agg ⟨[(.int .i64 x0), (.int .i64 x1), (.int .i64 x2), (.int .i64 x3)]⟩), h2)) ∧ eqV (.agg ⟨[(.int .i64 x0), (.int .i64 x1), (.int .i64 x2), (.int .i64 x3)]⟩) (.agg ⟨[(.int .i64 x0), (.int .i64 x1), (.int .i64 x2), (.int .i64 x3)]⟩) = true)
 (.claim ((∃ h2, opA (Plain.env tblC gK) (.call 24 [(.const l)]) [] (((H1 ++ [some (Blk.mk .fix [(.int .i64 0), (.int .i64 0), (.int .i64 0), (.int .i64 0)])]) ++ [some (Blk.mk .fix [(.int .i64 0), (.int .i64 0), (.int .i64 0), (.int .i64 0)])]) ++ [some (Blk.mk .fix [(.int .i64 0), (.int .i64 0), (.int .i64 0), (.int .i64 0)])]) = some ((.agg ⟨[(.int .i64 x0), (.int .i64 x1), (.int .i64 x2), (.int .i64 x3)]⟩), h2)) ∧ eqV (.agg ⟨[(.int .i64 x0), (.int .i64 x1), (.int .i64 x2), (.int .i64 x3)]⟩) (.agg ⟨[(.int .i64 x0), (.int .i64 x1), (.int .i64 x2), (.int .i64 x3)]⟩) = true)
 (.claim ((∃ h2, opA (Plain.env tblC gK) (.call 24 [(.const lb)]) [] (H1 ++ [some (Blk.mk .fix [(.int .i64 0), (.int .i64 0), (.int .i64 0), (.int .i64 0)])]) = some ((.agg ⟨[(.int .i64 y0), (.int .i64 y1), (.int .i64 y2), (.int .i64 y3)]⟩), h2)) ∧ eqV (.agg ⟨[(.int .i64 y0), (.int .i64 y1), (.int .i64 y2), (.int .i64 y3)]⟩) (.agg ⟨[(.int .i64 y0), (.int .i64 y1), (.int .i64 y2), (.int .i64 y3)]⟩) = true)
 (.claim ((∃ h2, opA (Plain.env tblC gK) (.call 24 [(.const lb)]) [] ((H1 ++ [some (Blk.mk .fix [(.int .i64 0), (.int .i64 0), (.int .i64 0), (.int .i64 0)])]) ++ [some (Blk.mk .fix [(.int .i64 0), (.int .i64 0), (.int .i64 0), (.int .i64 0)])]) = some ((.agg ⟨[(.int .i64 y0), (.int .i64 y1), (.int .i64 y2), (.int .i64 y3)]⟩), h2)) ∧ eqV (.agg ⟨[(.int .i64 y0), (.int .i64 y1), (.int .i64 y2), (.int .i64 y3)]⟩) (.agg ⟨[(.int .i64 y0), (.int .i64 y1), (.int .i64 y2), (.int .i64 y3)]⟩) = true)
 (.claim ((∃ h2, opA (Plain.env tblC gK) (.call 24 [(.const lb)]) [] (((H1 ++ [some (Blk.mk .fix [(.int .i64 0), (.int .i64 0), (.int .i64 0), (.int .i64 0)])]) ++ [some (Blk.mk .fix [(.int .i64 0), (.int .i64 0), (.int .i64 0), (.int .i64 0)])]) ++ [some (Blk.mk .fix [(.int .i64 0), (.int .i64 0), (.int .i64 0), (.int .i64 0)])]) = some ((.agg ⟨[(.int .i64 y0), (.int .i64 y1), (.int .i64 y2), (.int .i64 y3)]⟩), h2)) ∧ eqV (.agg ⟨[(.int .i64 y0), (.int .i64 y1), (.int .i64 y2), (.int .i64 y3)]⟩) (.agg ⟨[(.int .i64 y0), (.int .i64 y1), (.int .i64 y2), (.int .i64 y3)]⟩) = true)
 (.claim ((∃ h2, opA (Plain.env tblC gK) (.call 24 [(.const lc)]) [] (H1 ++ [some (Blk.mk .fix [(.int .i64 0), (.int .i64 0), (.int .i64 0), (.int .i64 0)])]) = some ((.agg ⟨[(.int .i64 z0), (.int .i64 z1), (.int .i64 z2), (.int .i64 z3)]⟩), h2)) ∧ eqV (.agg ⟨[(.int .i64 z0), (.int .i64 z1), (.int .i64 z2), (.int .i64 z3)]⟩) (.agg ⟨[(.int .i64 z0), (.int .i64 z1), (.int .i64 z2), (.int .i64 z3)]⟩) = true)
 (.claim ((∃ h2, opA (Plain.env tblC gK) (.call 24 [(.const lc)]) [] ((H1 ++ [some (Blk.mk .fix [(.int .i64 0), (.int .i64 0), (.int .i64 0), (.int .i64 0)])]) ++ [some (Blk.mk .fix [(.int .i64 0), (.int .i64 0), (.int .i64 0), (.int .i64 0)])]) = some ((.agg ⟨[(.int .i64 z0), (.int .i64 z1), (.int .i64 z2), (.int .i64 z3)]⟩), h2)) ∧ eqV (.agg ⟨[(.int .i64 z0), (.int .i64 z1), (.int .i64 z2), (.int .i64 z3)]⟩) (.agg ⟨[(.int .i64 z0), (.int .i64 z1), (.int .i64 z2), (.int .i64 z3)]⟩) = true)
 (.claim ((∃ h2, opA (Plain.env tblC gK) (.call 24 [(.const lc)]) [] (((H1 ++ [some (Blk.mk .fix [(.int .i64 0), (.int .i64 0), (.int .i64 0), (.int .i64 0)])]) ++ [some (Blk.mk .fix [(.int .i64 0), (.int .i64 0), (.int .i64 0), (.int .i64 0)])]) ++ [some (Blk.mk .fix [(.int .i64 0), (.int .i64 0), (.int .i64 0), (.int .i64 0)])]) = some ((.agg ⟨[(.int .i64 z0), (.int .i64 z1), (.int .i64 z2), (.int .i64 z3)]⟩), h2)) ∧ eqV (.agg ⟨[(.int .i64 z0), (.int .i64 z1), (.int .i64 z2), (.int .i64 z3)]⟩) (.agg ⟨[(.int .i64 z0), (.int .i64 z1), (.int .i64 z2), (.int .i64 z3)]⟩) = true)
 (.req true (.claim (opA (Plain.env tblC gK) (.load (.const (.pointer (some ⟨(H1).length, 0, none⟩))) none) [] (((H1 ++ [some (Blk.mk .fix [(.int .i64 x0), (.int .i64 x1), (.int .i64 x2), (.int .i64 x3)])]) ++ [some (Blk.mk .fix [(.int .i64 y0), (.int .i64 y1), (.int .i64 y2), (.int .i64 y3)])]) ++ [some (Blk.mk .fix [(.int .i64 z0), (.int .i64 z1), (.int .i64 z2), (.int .i64 z3)])]) = some ((.int .i64 x0), (((H1 ++ [some (Blk.mk .fix [(.int .i64 x0), (.int .i64 x1), (.int .i64 x2), (.int .i64 x3)])]) ++ [some (Blk.mk .fix [(.int .i64 y0), (.int .i64 y1), (.int .i64 y2), (.int .i64 y3)])]) ++ [some (Blk.mk .fix [(.int .i64 z0), (.int .i64 z1), (.int .i64 z2), (.int .i64 z3)])])))
 (.claim (opA (Plain.env tblC gK) (.load (.const (.pointer (some ⟨((H1 ++ [some (Blk.mk .fix [(.int .i64 0), (.int .i64 0), (.int .i64 0), (.int .i64 0)])])).length, 0, none⟩))) none) [] (((H1 ++ [some (Blk.mk .fix [(.int .i64 x0), (.int .i64 x1), (.int .i64 x2), (.int .i64 x3)])]) ++ [some (Blk.mk .fix [(.int .i64 y0), (.int .i64 y1), (.int .i64 y2), (.int .i64 y3)])]) ++ [some (Blk.mk .fix [(.int .i64 z0), (.int .i64 z1), (.int .i64 z2), (.int .i64 z3)])]) = some ((.int .i64 y0), (((H1 ++ [some (Blk.mk .fix [(.int .i64 x0), (.int .i64 x1), (.int .i64 x2), (.int .i64 x3)])]) ++ [some (Blk.mk .fix [(.int .i64 y0), (.int .i64 y1), (.int .i64 y2), (.int .i64 y3)])]) ++ [some (Blk.mk .fix [(.int .i64 z0), (.int .i64 z1), (.int .i64 z2), (.int .i64 z3)])])))
 (.claim (opA (Plain.env tblC gK) (.load (.const (.pointer (some ⟨(((H1 ++ [some (Blk.mk .fix [(.int .i64 0), (.int .i64 0), (.int .i64 0), (.int .i64 0)])]) ++ [some (Blk.mk .fix [(.int .i64 0), (.int .i64 0), (.int .i64 0), (.int .i64 0)])])).length, 0, none⟩))) none) [] (((H1 ++ [some (Blk.mk .fix [(.int .i64 x0), (.int .i64 x1), (.int .i64 x2), (.int .i64 x3)])]) ++ [some (Blk.mk .fix [(.int .i64 y0), (.int .i64 y1), (.int .i64 y2), (.int .i64 y3)])]) ++ [some (Blk.mk .fix [(.int .i64 z0), (.int .i64 z1), (.int .i64 z2), (.int .i64 z3)])]) = some ((.int .i64 z0), (((H1 ++ [some (Blk.mk .fix [(.int .i64 x0), (.int .i64 x1), (.int .i64 x2), (.int .i64 x3)])]) ++ [some (Blk.mk .fix [(.int .i64 y0), (.int .i64 y1), (.int .i64 y2), (.int .i64 y3)])]) ++ [some (Blk.mk .fix [(.int .i64 z0), (.int .i64 z1), (.int .i64 z2), (.int .i64 z3)])])))
 (.req (!(x0 != (IntKind.wrap .i64 (y0 + z0)))) (.req (decide (0 ≥ a3)) (.claim (opA (Plain.env tblC gK) (.load (.const (.pointer (some ⟨(H1).length, 0, none⟩))) none) [] (((H1 ++ [some (Blk.mk .fix [(.int .i64 x0), (.int .i64 x1), (.int .i64 x2), (.int .i64 x3)])]) ++ [some (Blk.mk .fix [(.int .i64 y0), (.int .i64 y1), (.int .i64 y2), (.int .i64 y3)])]) ++ [some (Blk.mk .fix [(.int .i64 z0), (.int .i64 z1), (.int .i64 z2), (.int .i64 z3)])]) = some ((.int .i64 x0), (((H1 ++ [some (Blk.mk .fix [(.int .i64 x0), (.int .i64 x1), (.int .i64 x2), (.int .i64 x3)])]) ++ [some (Blk.mk .fix [(.int .i64 y0), (.int .i64 y1), (.int .i64 y2), (.int .i64 y3)])]) ++ [some (Blk.mk .fix [(.int .i64 z0), (.int .i64 z1), (.int .i64 z2), (.int .i64 z3)])])))
 (.req true (.claim (opA (Plain.env tblC gK) (.load (.const (.pointer (some ⟨(H1).length, 1, none⟩))) none) [] (((H1 ++ [some (Blk.mk .fix [(.int .i64 x0), (.int .i64 x1), (.int .i64 x2), (.int .i64 x3)])]) ++ [some (Blk.mk .fix [(.int .i64 y0), (.int .i64 y1), (.int .i64 y2), (.int .i64 y3)])]) ++ [some (Blk.mk .fix [(.int .i64 z0), (.int .i64 z1), (.int .i64 z2), (.int .i64 z3)])]) = some ((.int .i64 x1), (((H1 ++ [some (Blk.mk .fix [(.int .i64 x0), (.int .i64 x1), (.int .i64 x2), (.int .i64 x3)])]) ++ [some (Blk.mk .fix [(.int .i64 y0), (.int .i64 y1), (.int .i64 y2), (.int .i64 y3)])]) ++ [some (Blk.mk .fix [(.int .i64 z0), (.int .i64 z1), (.int .i64 z2), (.int .i64 z3)])])))
 (.claim (opA (Plain.env tblC gK) (.load (.const (.pointer (some ⟨((H1 ++ [some (Blk.mk .fix [(.int .i64 0), (.int .i64 0), (.int .i64 0), (.int .i64 0)])])).length, 1, none⟩))) none) [] (((H1 ++ [some (Blk.mk .fix [(.int .i64 x0), (.int .i64 x1), (.int .i64 x2), (.int .i64 x3)])]) ++ [some (Blk.mk .fix [(.int .i64 y0), (.int .i64 y1), (.int .i64 y2), (.int .i64 y3)])]) ++ [some (Blk.mk .fix [(.int .i64 z0), (.int .i64 z1), (.int .i64 z2), (.int .i64 z3)])]) = some ((.int .i64 y1), (((H1 ++ [some (Blk.mk .fix [(.int .i64 x0), (.int .i64 x1), (.int .i64 x2), (.int .i64 x3)])]) ++ [some (Blk.mk .fix [(.int .i64 y0), (.int .i64 y1), (.int .i64 y2), (.int .i64 y3)])]) ++ [some (Blk.mk .fix [(.int .i64 z0), (.int .i64 z1), (.int .i64 z2), (.int .i64 z3)])])))
 (.claim (opA (Plain.env tblC gK) (.load (.const (.pointer (some ⟨(((H1 ++ [some (Blk.mk .fix [(.int .i64 0), (.int .i64 0), (.int .i64 0), (.int .i64 0)])]) ++ [some (Blk.mk .fix [(.int .i64 0), (.int .i64 0), (.int .i64 0), (.int .i64 0)])])).length, 1, none⟩))) none) [] (((H1 ++ [some (Blk.mk .fix [(.int .i64 x0), (.int .i64 x1), (.int .i64 x2), (.int .i64 x3)])]) ++ [some (Blk.mk .fix [(.int .i64 y0), (.int .i64 y1), (.int .i64 y2), (.int .i64 y3)])]) ++ [some (Blk.mk .fix [(.int .i64 z0), (.int .i64 z1), (.int .i64 z2), (.int .i64 z3)])]) = some ((.int .i64 z1), (((H1 ++ [some (Blk.mk .fix [(.int .i64 x0), (.int .i64 x1), (.int .i64 x2), (.int .i64 x3)])]) ++ [some (Blk.mk .fix [(.int .i64 y0), (.int .i64 y1), (.int .i64 y2), (.int .i64 y3)])]) ++ [some (Blk.mk .fix [(.int .i64 z0), (.int .i64 z1), (.int .i64 z2), (.int .i64 z3)])])))
 (.req (!(x1 != (IntKind.wrap .i64 (y1 + z1)))) (.req (decide (1 ≥ a3)) (.claim (opA (Plain.env tblC gK) (.load (.const (.pointer (some ⟨(H1).length, 1, none⟩))) none) [] (((H1 ++ [some (Blk.mk .fix [(.int .i64 x0), (.int .i64 x1), (.int .i64 x2), (.int .i64 x3)])]) ++ [some (Blk.mk .fix [(.int .i64 y0), (.int .i64 y1), (.int .i64 y2), (.int .i64 y3)])]) ++ [some (Blk.mk .fix [(.int .i64 z0), (.int .i64 z1), (.int .i64 z2), (.int .i64 z3)])]) = some ((.int .i64 x1), (((H1 ++ [some (Blk.mk .fix [(.int .i64 x0), (.int .i64 x1), (.int .i64 x2), (.int .i64 x3)])]) ++ [some (Blk.mk .fix [(.int .i64 y0), (.int .i64 y1), (.int .i64 y2), (.int .i64 y3)])]) ++ [some (Blk.mk .fix [(.int .i64 z0), (.int .i64 z1), (.int .i64 z2), (.int .i64 z3)])])))
 (.req true (.claim (opA (Plain.env tblC gK) (.load (.const (.pointer (some ⟨(H1).length, 2, none⟩))) none) [] (((H1 ++ [some (Blk.mk .fix [(.int .i64 x0), (.int .i64 x1), (.int .i64 x2), (.int .i64 x3)])]) ++ [some (Blk.mk .fix [(.int .i64 y0), (.int .i64 y1), (.int .i64 y2), (.int .i64 y3)])]) ++ [some (Blk.mk .fix [(.int .i64 z0), (.int .i64 z1), (.int .i64 z2), (.int .i64 z3)])]) = some ((.int .i64 x2), (((H1 ++ [some (Blk.mk .fix [(.int .i64 x0), (.int .i64 x1), (.int .i64 x2), (.int .i64 x3)])]) ++ [some (Blk.mk .fix [(.int .i64 y0), (.int .i64 y1), (.int .i64 y2), (.int .i64 y3)])]) ++ [some (Blk.mk .fix [(.int .i64 z0), (.int .i64 z1), (.int .i64 z2), (.int .i64 z3)])])))
 (.claim (opA (Plain.env tblC gK) (.load (.const (.pointer (some ⟨((H1 ++ [some (Blk.mk .fix [(.int .i64 0), (.int .i64 0), (.int .i64 0), (.int .i64 0)])])).length, 2, none⟩))) none) [] (((H1 ++ [some (Blk.mk .fix [(.int .i64 x0), (.int .i64 x1), (.int .i64 x2), (.int .i64 x3)])]) ++ [some (Blk.mk .fix [(.int .i64 y0), (.int .i64 y1), (.int .i64 y2), (.int .i64 y3)])]) ++ [some (Blk.mk .fix [(.int .i64 z0), (.int .i64 z1), (.int .i64 z2), (.int .i64 z3)])]) = some ((.int .i64 y2), (((H1 ++ [some (Blk.mk .fix [(.int .i64 x0), (.int .i64 x1), (.int .i64 x2), (.int .i64 x3)])]) ++ [some (Blk.mk .fix [(.int .i64 y0), (.int .i64 y1), (.int .i64 y2), (.int .i64 y3)])]) ++ [some (Blk.mk .fix [(.int .i64 z0), (.int .i64 z1), (.int .i64 z2), (.int .i64 z3)])])))
 (.claim (opA (Plain.env tblC gK) (.load (.const (.pointer (some ⟨(((H1 ++ [some (Blk.mk .fix [(.int .i64 0), (.int .i64 0), (.int .i64 0), (.int .i64 0)])]) ++ [some (Blk.mk .fix [(.int .i64 0), (.int .i64 0), (.int .i64 0), (.int .i64 0)])])).length, 2, none⟩))) none) [] (((H1 ++ [some (Blk.mk .fix [(.int .i64 x0), (.int .i64 x1), (.int .i64 x2), (.int .i64 x3)])]) ++ [some (Blk.mk .fix [(.int .i64 y0), (.int .i64 y1), (.int .i64 y2), (.int .i64 y3)])]) ++ [some (Blk.mk .fix [(.int .i64 z0), (.int .i64 z1), (.int .i64 z2), (.int .i64 z3)])]) = some ((.int .i64 z2), (((H1 ++ [some (Blk.mk .fix [(.int .i64 x0), (.int .i64 x1), (.int .i64 x2), (.int .i64 x3)])]) ++ [some (Blk.mk .fix [(.int .i64 y0), (.int .i64 y1), (.int .i64 y2), (.int .i64 y3)])]) ++ [some (Blk.mk .fix [(.int .i64 z0), (.int .i64 z1), (.int .i64 z2), (.int .i64 z3)])])))
 (.req (!(x2 != (IntKind.wrap .i64 (y2 + z2)))) (.req (decide (2 ≥ a3)) (.claim (opA (Plain.env tblC gK) (.load (.const (.pointer (some ⟨(H1).length, 2, none⟩))) none) [] (((H1 ++ [some (Blk.mk .fix [(.int .i64 x0), (.int .i64 x1), (.int .i64 x2), (.int .i64 x3)])]) ++ [some (Blk.mk .fix [(.int .i64 y0), (.int .i64 y1), (.int .i64 y2), (.int .i64 y3)])]) ++ [some (Blk.mk .fix [(.int .i64 z0), (.int .i64 z1), (.int .i64 z2), (.int .i64 z3)])]) = some ((.int .i64 x2), (((H1 ++ [some (Blk.mk .fix [(.int .i64 x0), (.int .i64 x1), (.int .i64 x2), (.int .i64 x3)])]) ++ [some (Blk.mk .fix [(.int .i64 y0), (.int .i64 y1), (.int .i64 y2), (.int .i64 y3)])]) ++ [some (Blk.mk .fix [(.int .i64 z0), (.int .i64 z1), (.int .i64 z2), (.int .i64 z3)])])))
 (.req true (.claim (opA (Plain.env tblC gK) (.load (.const (.pointer (some ⟨(H1).length, 3, none⟩))) none) [] (((H1 ++ [some (Blk.mk .fix [(.int .i64 x0), (.int .i64 x1), (.int .i64 x2), (.int .i64 x3)])]) ++ [some (Blk.mk .fix [(.int .i64 y0), (.int .i64 y1), (.int .i64 y2), (.int .i64 y3)])]) ++ [some (Blk.mk .fix [(.int .i64 z0), (.int .i64 z1), (.int .i64 z2), (.int .i64 z3)])]) = some ((.int .i64 x3), (((H1 ++ [some (Blk.mk .fix [(.int .i64 x0), (.int .i64 x1), (.int .i64 x2), (.int .i64 x3)])]) ++ [some (Blk.mk .fix [(.int .i64 y0), (.int .i64 y1), (.int .i64 y2), (.int .i64 y3)])]) ++ [some (Blk.mk .fix [(.int .i64 z0), (.int .i64 z1), (.int .i64 z2), (.int .i64 z3)])])))
 (.claim (opA (Plain.env tblC gK) (.load (.const (.pointer (some ⟨((H1 ++ [some (Blk.mk .fix [(.int .i64 0), (.int .i64 0), (.int .i64 0), (.int .i64 0)])])).length, 3, none⟩))) none) [] (((H1 ++ [some (Blk.mk .fix [(.int .i64 x0), (.int .i64 x1), (.int .i64 x2), (.int .i64 x3)])]) ++ [some (Blk.mk .fix [(.int .i64 y0), (.int .i64 y1), (.int .i64 y2), (.int .i64 y3)])]) ++ [some (Blk.mk .fix [(.int .i64 z0), (.int .i64 z1), (.int .i64 z2), (.int .i64 z3)])]) = some ((.int .i64 y3), (((H1 ++ [some (Blk.mk .fix [(.int .i64 x0), (.int .i64 x1), (.int .i64 x2), (.int .i64 x3)])]) ++ [some (Blk.mk .fix [(.int .i64 y0), (.int .i64 y1), (.int .i64 y2), (.int .i64 y3)])]) ++ [some (Blk.mk .fix [(.int .i64 z0), (.int .i64 z1), (.int .i64 z2), (.int .i64 z3)])])))
 (.claim (opA (Plain.env tblC gK) (.load (.const (.pointer (some ⟨(((H1 ++ [some (Blk.mk .fix [(.int .i64 0), (.int .i64 0), (.int .i64 0), (.int .i64 0)])]) ++ [some (Blk.mk .fix [(.int .i64 0), (.int .i64 0), (.int .i64 0), (.int .i64 0)])])).length, 3, none⟩))) none) [] (((H1 ++ [some (Blk.mk .fix [(.int .i64 x0), (.int .i64 x1), (.int .i64 x2), (.int .i64 x3)])]) ++ [some (Blk.mk .fix [(.int .i64 y0), (.int .i64 y1), (.int .i64 y2), (.int .i64 y3)])]) ++ [some (Blk.mk .fix [(.int .i64 z0), (.int .i64 z1), (.int .i64 z2), (.int .i64 z3)])]) = some ((.int .i64 z3), (((H1 ++ [some (Blk.mk .fix [(.int .i64 x0), (.int .i64 x1), (.int .i64 x2), (.int .i64 x3)])]) ++ [some (Blk.mk .fix [(.int .i64 y0), (.int .i64 y1), (.int .i64 y2), (.int .i64 y3)])]) ++ [some (Blk.mk .fix [(.int .i64 z0), (.int .i64 z1), (.int .i64 z2), (.int .i64 z3)])])))
 (.req (!(x3 != (IntKind.wrap .i64 (y3 + z3)))) (.req (decide (3 ≥ a3)) (.claim (opA (Plain.env tblC gK) (.load (.const (.pointer (some ⟨(H1).length, 3, none⟩))) none) [] (((H1 ++ [some (Blk.mk .fix [(.int .i64 x0), (.int .i64 x1), (.int .i64 x2), (.int .i64 x3)])]) ++ [some (Blk.mk .fix [(.int .i64 y0), (.int .i64 y1), (.int .i64 y2), (.int .i64 y3)])]) ++ [some (Blk.mk .fix [(.int .i64 z0), (.int .i64 z1), (.int .i64 z2), (.int .i64 z3)])]) = some ((.int .i64 x3), (((H1 ++ [some (Blk.mk .fix [(.int .i64 x0), (.int .i64 x1), (.int .i64 x2), (.int .i64 x3)])]) ++ [some (Blk.mk .fix [(.int .i64 y0), (.int .i64 y1), (.int .i64 y2), (.int .i64 y3)])]) ++ [some (Blk.mk .fix [(.int .i64 z0), (.int .i64 z1), (.int .i64 z2), (.int .i64 z3)])])))
 (.req true (.claim (opA (Plain.env tblC gK) (.load (.const (.pointer (some ⟨(H1).length, 0, none⟩))) (some 4)) [] (((H1 ++ [some (Blk.mk .fix [(.int .i64 x0), (.int .i64 x1), (.int .i64 x2), (.int .i64 x3)])]) ++ [some (Blk.mk .fix [(.int .i64 y0), (.int .i64 y1), (.int .i64 y2), (.int .i64 y3)])]) ++ [some (Blk.mk .fix [(.int .i64 z0), (.int .i64 z1), (.int .i64 z2), (.int .i64 z3)])]) = some ((.agg ⟨[(.int .i64 x0), (.int .i64 x1), (.int .i64 x2), (.int .i64 x3)]⟩), (((H1 ++ [some (Blk.mk .fix [(.int .i64 x0), (.int .i64 x1), (.int .i64 x2), (.int .i64 x3)])]) ++ [some (Blk.mk .fix [(.int .i64 y0), (.int .i64 y1), (.int .i64 y2), (.int .i64 y3)])]) ++ [some (Blk.mk .fix [(.int .i64 z0), (.int .i64 z1), (.int .i64 z2), (.int .i64 z3)])])))
 (.claim (opA (Plain.env tblC gK) (.call 26 [(.const r)]) [] (((H1 ++ [some (Blk.mk .fix [(.int .i64 x0), (.int .i64 x1), (.int .i64 x2), (.int .i64 x3)])]) ++ [some (Blk.mk .fix [(.int .i64 y0), (.int .i64 y1), (.int .i64 y2), (.int .i64 y3)])]) ++ [some (Blk.mk .fix [(.int .i64 z0), (.int .i64 z1), (.int .i64 z2), (.int .i64 z3)])]) = some ((.agg ⟨[(.int .i64 x0), (.int .i64 x1), (.int .i64 x2), (.int .i64 x3)]⟩), (((H1 ++ [some (Blk.mk .fix [(.int .i64 x0), (.int .i64 x1), (.int .i64 x2), (.int .i64 x3)])]) ++ [some (Blk.mk .fix [(.int .i64 y0), (.int .i64 y1), (.int .i64 y2), (.int .i64 y3)])]) ++ [some (Blk.mk .fix [(.int .i64 z0), (.int .i64 z1), (.int .i64 z2), (.int .i64 z3)])])))
 (.req ((x0 == x0) && ((x1 == x1) && ((x2 == x2) && ((x3 == x3) && true)))) (.claim (opA (Plain.env tblC gK) (.load (.const (.pointer (some ⟨(H1).length, 0, none⟩))) (some 4)) [] (((H1 ++ [some (Blk.mk .fix [(.int .i64 x0), (.int .i64 x1), (.int .i64 x2), (.int .i64 x3)])]) ++ [some (Blk.mk .fix [(.int .i64 y0), (.int .i64 y1), (.int .i64 y2), (.int .i64 y3)])]) ++ [some (Blk.mk .fix [(.int .i64 z0), (.int .i64 z1), (.int .i64 z2), (.int .i64 z3)])]) = some ((.agg ⟨[(.int .i64 x0), (.int .i64 x1), (.int .i64 x2), (.int .i64 x3)]⟩), (((H1 ++ [some (Blk.mk .fix [(.int .i64 x0), (.int .i64 x1), (.int .i64 x2), (.int .i64 x3)])]) ++ [some (Blk.mk .fix [(.int .i64 y0), (.int .i64 y1), (.int .i64 y2), (.int .i64 y3)])]) ++ [some (Blk.mk .fix [(.int .i64 z0), (.int .i64 z1), (.int .i64 z2), (.int .i64 z3)])])))
 (.req true (.req ((fromB ⟨x0, x1, x2, x3⟩ a3) == (IntKind.wrap .i64 ((IntKind.wrap .i64 ((IntKind.wrap .i64 ((IntKind.wrap .i64 (0 + x0)) + x1)) + x2)) + x3))) (.claim (opA (Plain.env tblC gK) (.load (.const (.pointer (some ⟨(H1).length, 0, none⟩))) (some 4)) [] (((H1 ++ [some (Blk.mk .fix [(.int .i64 x0), (.int .i64 x1), (.int .i64 x2), (.int .i64 x3)])]) ++ [some (Blk.mk .fix [(.int .i64 y0), (.int .i64 y1), (.int .i64 y2), (.int .i64 y3)])]) ++ [some (Blk.mk .fix [(.int .i64 z0), (.int .i64 z1), (.int .i64 z2), (.int .i64 z3)])]) = some ((.agg ⟨[(.int .i64 x0), (.int .i64 x1), (.int .i64 x2), (.int .i64 x3)]⟩), (((H1 ++ [some (Blk.mk .fix [(.int .i64 x0), (.int .i64 x1), (.int .i64 x2), (.int .i64 x3)])]) ++ [some (Blk.mk .fix [(.int .i64 y0), (.int .i64 y1), (.int .i64 y2), (.int .i64 y3)])]) ++ [some (Blk.mk .fix [(.int .i64 z0), (.int .i64 z1), (.int .i64 z2), (.int .i64 z3)])])))
 (.req true (.claim (opA (Plain.env tblC gK) (.call 29 [(.const r)]) [] (((H1 ++ [some (Blk.mk .fix [(.int .i64 x0), (.int .i64 x1), (.int .i64 x2), (.int .i64 x3)])]) ++ [some (Blk.mk .fix [(.int .i64 y0), (.int .i64 y1), (.int .i64 y2), (.int .i64 y3)])]) ++ [some (Blk.mk .fix [(.int .i64 z0), (.int .i64 z1), (.int .i64 z2), (.int .i64 z3)])]) = some ((.int .i64 bl), (((H1 ++ [some (Blk.mk .fix [(.int .i64 x0), (.int .i64 x1), (.int .i64 x2), (.int .i64 x3)])]) ++ [some (Blk.mk .fix [(.int .i64 y0), (.int .i64 y1), (.int .i64 y2), (.int .i64 y3)])]) ++ [some (Blk.mk .fix [(.int .i64 z0), (.int .i64 z1), (.int .i64 z2), (.int .i64 z3)])])))
 (.req ((fromB ⟨x0, x1, x2, x3⟩ 0) == bl) (.claim (opA (Plain.env tblC gK) (.call 24 [(.const (.slice none 0 0))]) [] (((H1 ++ [some (Blk.mk .fix [(.int .i64 x0), (.int .i64 x1), (.int .i64 x2), (.int .i64 x3)])]) ++ [some (Blk.mk .fix [(.int .i64 y0), (.int .i64 y1), (.int .i64 y2), (.int .i64 y3)])]) ++ [some (Blk.mk .fix [(.int .i64 z0), (.int .i64 z1), (.int .i64 z2), (.int .i64 z3)])]) = some ((.agg ⟨[(.int .i64 0), (.int .i64 0), (.int .i64 0), (.int .i64 0)]⟩), (((H1 ++ [some (Blk.mk .fix [(.int .i64 x0), (.int .i64 x1), (.int .i64 x2), (.int .i64 x3)])]) ++ [some (Blk.mk .fix [(.int .i64 y0), (.int .i64 y1), (.int .i64 y2), (.int .i64 y3)])]) ++ [some (Blk.mk .fix [(.int .i64 z0), (.int .i64 z1), (.int .i64 z2), (.int .i64 z3)])])))
 (.req true (.ret (pk .ret (fr 119 [(8, (.bool true))])) (((H1 ++ [some (Blk.mk .fix [(.int .i64 x0), (.int .i64 x1), (.int .i64 x2), (.int .i64 x3)])]) ++ [some (Blk.mk .fix [(.int .i64 y0), (.int .i64 y1), (.int .i64 y2), (.int .i64 y3)])]) ++ [some (Blk.mk .fix [(.int .i64 z0), (.int .i64 z1), (.int .i64 z2), (.int .i64 z3)])]))))))))))))))))))))))))))))))))))))))))))))))))))))))))))))))))))))))) := by kernel_rfl
def hn9k1 (s0 s1 l r lb lc : Value) (a2 a3 n bl : Int) (x0 x1 x2 x3 : Int) (y0 y1 y2 y3 : Int) (z0 z1 z2 z3 : Int) (H H1 : Heap) : Hj := (.lp 0 [2, 3, 8, 9, 10] (fr 119 [(2, (.int .i64 a2)), (3, (.int .i64 a3)), (8, (.bool false)), (9, l), (10, r)]) H1 (.use 58 (.int .i64 n) H1 (.crs [none, some ((.agg ⟨[(.int .i64 x0), (.int .i64 x1), (.int .i64 x2), (.int .i64 x3)]⟩), H1), none, none, some (lb, H1), some ((.agg ⟨[(.int .i64 y0), (.int .i64 y1), (.int .i64 y2), (.int .i64 y3)]⟩), H1), none, none, some (lc, H1), some ((.agg ⟨[(.int .i64 z0), (.int .i64 z1), (.int .i64 z2), (.int .i64 z3)]⟩), H1), none, none, none, some ((.tuple ⟨[]⟩), (((H1 ++ [some (Blk.mk .fix [(.int .i64 x0), (.int .i64 x1), (.int .i64 x2), (.int .i64 x3)])]) ++ [some (Blk.mk .fix [(.int .i64 0), (.int .i64 0), (.int .i64 0), (.int .i64 0)])]) ++ [some (Blk.mk .fix [(.int .i64 0), (.int .i64 0), (.int .i64 0), (.int .i64 0)])])), some ((.tuple ⟨[]⟩), (((H1 ++ [some (Blk.mk .fix [(.int .i64 x0), (.int .i64 x1), (.int .i64 x2), (.int .i64 x3)])]) ++ [some (Blk.mk .fix [(.int .i64 y0), (.int .i64 y1), (.int .i64 y2), (.int .i64 y3)])]) ++ [some (Blk.mk .fix [(.int .i64 0), (.int .i64 0), (.int .i64 0), (.int .i64 0)])])), some ((.tuple ⟨[]⟩), (((H1 ++ [some (Blk.mk .fix [(.int .i64 x0), (.int .i64 x1), (.int .i64 x2), (.int .i64 x3)])]) ++ [some (Blk.mk .fix [(.int .i64 y0), (.int .i64 y1), (.int .i64 y2), (.int .i64 y3)])]) ++ [some (Blk.mk .fix [(.int .i64 z0), (.int .i64 z1), (.int .i64 z2), (.int .i64 z3)])]))] (.con (.use 75 (.int .i64 x0) (((H1 ++ [some (Blk.mk .fix [(.int .i64 x0), (.int .i64 x1), (.int .i64 x2), (.int .i64 x3)])]) ++ [some (Blk.mk .fix [(.int .i64 y0), (.int .i64 y1), (.int .i64 y2), (.int .i64 y3)])]) ++ [some (Blk.mk .fix [(.int .i64 z0), (.int .i64 z1), (.int .i64 z2), (.int .i64 z3)])]) (.use 78 (.int .i64 y0) (((H1 ++ [some (Blk.mk .fix [(.int .i64 x0), (.int .i64 x1), (.int .i64 x2), (.int .i64 x3)])]) ++ [some (Blk.mk .fix [(.int .i64 y0), (.int .i64 y1), (.int .i64 y2), (.int .i64 y3)])]) ++ [some (Blk.mk .fix [(.int .i64 z0), (.int .i64 z1), (.int .i64 z2), (.int .i64 z3)])]) (.use 81 (.int .i64 z0) (((H1 ++ [some (Blk.mk .fix [(.int .i64 x0), (.int .i64 x1), (.int .i64 x2), (.int .i64 x3)])]) ++ [some (Blk.mk .fix [(.int .i64 y0), (.int .i64 y1), (.int .i64 y2), (.int .i64 y3)])]) ++ [some (Blk.mk .fix [(.int .i64 z0), (.int .i64 z1), (.int .i64 z2), (.int .i64 z3)])]) (.no (.no (.con (.use 75 (.int .i64 x1) (((H1 ++ [some (Blk.mk .fix [(.int .i64 x0), (.int .i64 x1), (.int .i64 x2), (.int .i64 x3)])]) ++ [some (Blk.mk .fix [(.int .i64 y0), (.int .i64 y1), (.int .i64 y2), (.int .i64 y3)])]) ++ [some (Blk.mk .fix [(.int .i64 z0), (.int .i64 z1), (.int .i64 z2), (.int .i64 z3)])]) (.use 78 (.int .i64 y1) (((H1 ++ [some (Blk.mk .fix [(.int .i64 x0), (.int .i64 x1), (.int .i64 x2), (.int .i64 x3)])]) ++ [some (Blk.mk .fix [(.int .i64 y0), (.int .i64 y1), (.int .i64 y2), (.int .i64 y3)])]) ++ [some (Blk.mk .fix [(.int .i64 z0), (.int .i64 z1), (.int .i64 z2), (.int .i64 z3)])]) (.use 81 (.int .i64 z1) (((H1 ++ [some (Blk.mk .fix [(.int .i64 x0), (.int .i64 x1), (.int .i64 x2), (.int .i64 x3)])]) ++ [some (Blk.mk .fix [(.int .i64 y0), (.int .i64 y1), (.int .i64 y2), (.int .i64 y3)])]) ++ [some (Blk.mk .fix [(.int .i64 z0), (.int .i64 z1), (.int .i64 z2), (.int .i64 z3)])]) (.no (.yes (.use 90 (.int .i64 x1) (((H1 ++ [some (Blk.mk .fix [(.int .i64 x0), (.int .i64 x1), (.int .i64 x2), (.int .i64 x3)])]) ++ [some (Blk.mk .fix [(.int .i64 y0), (.int .i64 y1), (.int .i64 y2), (.int .i64 y3)])]) ++ [some (Blk.mk .fix [(.int .i64 z0), (.int .i64 z1), (.int .i64 z2), (.int .i64 z3)])]) (.con (.use 75 (.int .i64 x2) (((H1 ++ [some (Blk.mk .fix [(.int .i64 x0), (.int .i64 x1), (.int .i64 x2), (.int .i64 x3)])]) ++ [some (Blk.mk .fix [(.int .i64 y0), (.int .i64 y1), (.int .i64 y2), (.int .i64 y3)])]) ++ [some (Blk.mk .fix [(.int .i64 z0), (.int .i64 z1), (.int .i64 z2), (.int .i64 z3)])]) (.use 78 (.int .i64 y2) (((H1 ++ [some (Blk.mk .fix [(.int .i64 x0), (.int .i64 x1), (.int .i64 x2), (.int .i64 x3)])]) ++ [some (Blk.mk .fix [(.int .i64 y0), (.int .i64 y1), (.int .i64 y2), (.int .i64 y3)])]) ++ [some (Blk.mk .fix [(.int .i64 z0), (.int .i64 z1), (.int .i64 z2), (.int .i64 z3)])]) (.use 81 (.int .i64 z2) (((H1 ++ [some (Blk.mk .fix [(.int .i64 x0), (.int .i64 x1), (.int .i64 x2), (.int .i64 x3)])]) ++ [some (Blk.mk .fix [(.int .i64 y0), (.int .i64 y1), (.int .i64 y2), (.int .i64 y3)])]) ++ [some (Blk.mk .fix [(.int .i64 z0), (.int .i64 z1), (.int .i64 z2), (.int .i64 z3)])]) (.no (.yes (.use 90 (.int .i64 x2) (((H1 ++ [some (Blk.mk .fix [(.int .i64 x0), (.int .i64 x1), (.int .i64 x2), (.int .i64 x3)])]) ++ [some (Blk.mk .fix [(.int .i64 y0), (.int .i64 y1), (.int .i64 y2), (.int .i64 y3)])]) ++ [some (Blk.mk .fix [(.int .i64 z0), (.int .i64 z1), (.int .i64 z2), (.int .i64 z3)])]) (.con (.use 75 (.int .i64 x3) (((H1 ++ [some (Blk.mk .fix [(.int .i64 x0), (.int .i64 x1), (.int .i64 x2), (.int .i64 x3)])]) ++ [some (Blk.mk .fix [(.int .i64 y0), (.int .i64 y1), (.int .i64 y2), (.int .i64 y3)])]) ++ [some (Blk.mk .fix [(.int .i64 z0), (.int .i64 z1), (.int .i64 z2), (.int .i64 z3)])]) (.use 78 (.int .i64 y3) (((H1 ++ [some (Blk.mk .fix [(.int .i64 x0), (.int .i64 x1), (.int .i64 x2), (.int .i64 x3)])]) ++ [some (Blk.mk .fix [(.int .i64 y0), (.int .i64 y1), (.int .i64 y2), (.int .i64 y3)])]) ++ [some (Blk.mk .fix [(.int .i64 z0), (.int .i64 z1), (.int .i64 z2), (.int .i64 z3)])]) (.use 81 (.int .i64 z3) (((H1 ++ [some (Blk.mk .fix [(.int .i64 x0), (.int .i64 x1), (.int .i64 x2), (.int .i64 x3)])]) ++ [some (Blk.mk .fix [(.int .i64 y0), (.int .i64 y1), (.int .i64 y2), (.int .i64 y3)])]) ++ [some (Blk.mk .fix [(.int .i64 z0), (.int .i64 z1), (.int .i64 z2), (.int .i64 z3)])]) (.no (.yes (.use 90 (.int .i64 x3) (((H1 ++ [some (Blk.mk .fix [(.int .i64 x0), (.int .i64 x1), (.int .i64 x2), (.int .i64 x3)])]) ++ [some (Blk.mk .fix [(.int .i64 y0), (.int .i64 y1), (.int .i64 y2), (.int .i64 y3)])]) ++ [some (Blk.mk .fix [(.int .i64 z0), (.int .i64 z1), (.int .i64 z2), (.int .i64 z3)])]) (.con (.use 93 (.agg ⟨[(.int .i64 x0), (.int .i64 x1), (.int .i64 x2), (.int .i64 x3)]⟩) (((H1 ++ [some (Blk.mk .fix [(.int .i64 x0), (.int .i64 x1), (.int .i64 x2), (.int .i64 x3)])]) ++ [some (Blk.mk .fix [(.int .i64 y0), (.int .i64 y1), (.int .i64 y2), (.int .i64 y3)])]) ++ [some (Blk.mk .fix [(.int .i64 z0), (.int .i64 z1), (.int .i64 z2), (.int .i64 z3)])]) (.use 95 (.agg ⟨[(.int .i64 x0), (.int .i64 x1), (.int .i64 x2), (.int .i64 x3)]⟩) (((H1 ++ [some (Blk.mk .fix [(.int .i64 x0), (.int .i64 x1), (.int .i64 x2), (.int .i64 x3)])]) ++ [some (Blk.mk .fix [(.int .i64 y0), (.int .i64 y1), (.int .i64 y2), (.int .i64 y3)])]) ++ [some (Blk.mk .fix [(.int .i64 z0), (.int .i64 z1), (.int .i64 z2), (.int .i64 z3)])]) (.yes (.use 98 (.agg ⟨[(.int .i64 x0), (.int .i64 x1), (.int .i64 x2), (.int .i64 x3)]⟩) (((H1 ++ [some (Blk.mk .fix [(.int .i64 x0), (.int .i64 x1), (.int .i64 x2), (.int .i64 x3)])]) ++ [some (Blk.mk .fix [(.int .i64 y0), (.int .i64 y1), (.int .i64 y2), (.int .i64 y3)])]) ++ [some (Blk.mk .fix [(.int .i64 z0), (.int .i64 z1), (.int .i64 z2), (.int .i64 z3)])]) (.con (.con (.con (.con (.con (.yes (.use 105 (.agg ⟨[(.int .i64 x0), (.int .i64 x1), (.int .i64 x2), (.int .i64 x3)]⟩) (((H1 ++ [some (Blk.mk .fix [(.int .i64 x0), (.int .i64 x1), (.int .i64 x2), (.int .i64 x3)])]) ++ [some (Blk.mk .fix [(.int .i64 y0), (.int .i64 y1), (.int .i64 y2), (.int .i64 y3)])]) ++ [some (Blk.mk .fix [(.int .i64 z0), (.int .i64 z1), (.int .i64 z2), (.int .i64 z3)])]) (.con (.con (.con (.use 108 (.int .i64 bl) (((H1 ++ [some (Blk.mk .fix [(.int .i64 x0), (.int .i64 x1), (.int .i64 x2), (.int .i64 x3)])]) ++ [some (Blk.mk .fix [(.int .i64 y0), (.int .i64 y1), (.int .i64 y2), (.int .i64 y3)])]) ++ [some (Blk.mk .fix [(.int .i64 z0), (.int .i64 z1), (.int .i64 z2), (.int .i64 z3)])]) (.con (.con (.yes (.use 112 (.agg ⟨[(.int .i64 0), (.int .i64 0), (.int .i64 0), (.int .i64 0)]⟩) (((H1 ++ [some (Blk.mk .fix [(.int .i64 x0), (.int .i64 x1), (.int .i64 x2), (.int .i64 x3)])]) ++ [some (Blk.mk .fix [(.int .i64 y0), (.int .i64 y1), (.int .i64 y2), (.int .i64 y3)])]) ++ [some (Blk.mk .fix [(.int .i64 z0), (.int .i64 z1), (.int .i64 z2), (.int .i64 z3)])]) (.con (.con (.con (.con (.con .nil)))))))))))))))))))))))))))))))))))))))))))))))))))))))
theorem tree9k1 (s0 s1 l r lb lc : Value) (a2 a3 n bl : Int) (x0 x1 x2 x3 : Int) (y0 y1 y2 y3 : Int) (z0 z1 z2 z3 : Int) (H H1 : Heap) : pieceT tblC gK 200 (resLv [.tmp 8]) il9.body (hn9k1 s0 s1 l r lb lc a2 a3 n bl x0 x1 x2 x3 y0 y1 y2 y3 z0 z1 z2 z3 H H1) (fr 119 [(0, s0), (1, s1), (2, (.int .i64 a2)), (3, (.int .i64 a3))]) H =
(.claim (Wp (Plain.env tblC gK) (inL [2, 3, 8, 9, 10]) (.block 0 (.loop body9_0)) (fr 119 [(0, s0), (1, s1), (2, (.int .i64 a2)), (3, (.int .i64 a3)), (8, (.bool false)), (9, (.slice none 0 0)), (10, (.slice none 0 0)), (11, (.int .i64 0))]) H fun e s h' => e = .normal ∧ s = (fr 119 [(2, (.int .i64 a2)), (3, (.int .i64 a3)), (8, (.bool false)), (9, l), (10, r)]) ∧ h' = H1)
 (.claim (opA (Plain.env tblC gK) (.len (.const l)) [] H1 = some ((.int .i64 n), H1))
 (.req (preWithin 0 n) (.req true (.claim (opA (Plain.env tblC gK) (.call 24 [(.const l)]) [] H1 = some ((.agg ⟨[(.int .i64 x0), (.int .i64 x1), (.int .i64 x2), (.int .i64 x3)]⟩), H1))
 (.req true (.req true (.claim (opA (Plain.env tblC gK) (.slice 5 (.const l) none (some (.const (.int .i64 (wn a2 0 n)))) none) [] H1 = some (lb, H1))
 (.claim (opA (Plain.env tblC gK) (.call 24 [(.const lb)]) [] H1 = some ((.agg ⟨[(.int .i64 y0), (.int .i64 y1), (.int .i64 y2), (.int .i64 y3)]⟩), H1))
 (.req true (.req true (.claim (opA (Plain.env tblC gK) (.slice 5 (.const l) (some (.const (.int .i64 (wn a2 0 n)))) none none) [] H1 = some (lc, H1))
 (.claim (opA (Plain.env tblC gK) (.call 24 [(.const lc)]) [] H1 = some ((.agg ⟨[(.int .i64 z0), (.int .i64 z1), (.int .i64 z2), (.int .i64 z3)]⟩), H1))
 (.req true (.req true (.req true (.claim (opA (Plain.env tblC gK) (.store (.const (.pointer (some ⟨(H1).length, 0, none⟩))) (.const (.agg ⟨[(.int .i64 x0), (.int .i64 x1), (.int .i64 x2), (.int .i64 x3)]⟩)) 4) [] (((H1 ++ [some (Blk.mk .fix [(.int .i64 0), (.int .i64 0), (.int .i64 0), (.int .i64 0)])]) ++ [some (Blk.mk .fix [(.int .i64 0), (.int .i64 0), (.int .i64 0), (.int .i64 0)])]) ++ [some (Blk.mk .fix [(.int .i64 0), (.int .i64 0), (.int .i64 0), (.int .i64 0)])]) = some ((.tuple ⟨[]⟩), (((H1 ++ [some (Blk.mk .fix [(.int .i64 x0), (.int .i64 x1), (.int .i64 x2), (.int .i64 x3)])]) ++ [some (Blk.mk .fix [(.int .i64 0), (.int .i64 0), (.int .i64 0), (.int .i64 0)])]) ++ [some (Blk.mk .fix [(.int .i64 0), (.int .i64 0), (.int .i64 0), (.int .i64 0)])])))
 (.claim (opA (Plain.env tblC gK) (.store (.const (.pointer (some ⟨((H1 ++ [some (Blk.mk .fix [(.int .i64 0), (.int .i64 0), (.int .i64 0), (.int .i64 0)])])).length, 0, none⟩))) (.const (.agg ⟨[(.int .i64 y0), (.int .i64 y1), (.int .i64 y2), (.int .i64 y3)]⟩)) 4) [] (((H1 ++ [some (Blk.mk .fix [(.int .i64 x0), (.int .i64 x1), (.int .i64 x2), (.int .i64 x3)])]) ++ [some (Blk.mk .fix [(.int .i64 0), (.int .i64 0), (.int .i64 0), (.int .i64 0)])]) ++ [some (Blk.mk .fix [(.int .i64 0), (.int .i64 0), (.int .i64 0), (.int .i64 0)])]) = some ((.tuple ⟨[]⟩), (((H1 ++ [some (Blk.mk .fix [(.int .i64 x0), (.int .i64 x1), (.int .i64 x2), (.int .i64 x3)])]) ++ [some (Blk.mk .fix [(.int .i64 y0), (.int .i64 y1), (.int .i64 y2), (.int .i64 y3)])]) ++ [some (Blk.mk .fix [(.int .i64 0), (.int .i64 0), (.int .i64 0), (.int .i64 0)])])))
 (.claim (opA (Plain.env tblC gK) (.store (.const (.pointer (some ⟨(((H1 ++ [some (Blk.mk .fix [(.int .i64 0), (.int .i64 0), (.int .i64 0), (.int .i64 0)])]) ++ [some (Blk.mk .fix [(.int .i64 0), (.int .i64 0), (.int .i64 0), (.int .i64 0)])])).length, 0, none⟩))) (.const (.agg ⟨[(.int .i64 z0), (.int .i64 z1), (.int .i64 z2), (.int .i64 z3)]⟩)) 4) [] (((H1 ++ [some (Blk.mk .fix [(.int .i64 x0), (.int .i64 x1), (.int .i64 x2), (.int .i64 x3)])]) ++ [some (Blk.mk .fix [(.int .i64 y0), (.int .i64 y1), (.int .i64 y2), (.int .i64 y3)])]) ++ [some (Blk.mk .fix [(.int .i64 0), (.int .i64 0), (.int .i64 0), (.int .i64 0)])]) = some ((.tuple ⟨[]⟩), (((H1 ++ [some (Blk.mk .fix [(.int .i64 x0), (.int .i64 x1), (.int .i64 x2), (.int .i64 x3)])]) ++ [some (Blk.mk .fix [(.int .i64 y0), (.int .i64 y1), (.int .i64 y2), (.int .i64 y3)])]) ++ [some (Blk.mk .fix [(.int .i64 z0), (.int .i64 z1), (.int .i64 z2), (.int .i64 z3)])])))
 (.claim ((∃ h2, opA (Plain.env tblC gK) (.call 24 [(.const l)]) [] (H1 ++ [some (Blk.mk .fix [(.int .i64 0), (.int .i64 0), (.int .i64 0), (.int .i64 0)])]) = some ((.agg ⟨[(.int .i64 x0), (.int .i64 x1), (.int .i64 x2), (.int .i64 x3)]⟩), h2)) ∧ eqV (.agg ⟨[(.int .i64 x0), (.int .i64 x1), (.int .i64 x2), (.int .i64 x3)]⟩) (.agg ⟨[(.int .i64 x0), (.int .i64 x1), (.int .i64 x2), (.int .i64 x3)]⟩) = true)
 (.claim ((∃ h2, opA (Plain.env tblC gK) (.call 24 [(.const l)]) [] ((H1 ++ [some (Blk.mk .fix [(.int .i64 0), (.int .i64 0), (.int .i64 0), (.int .i64 0)])]) ++ [some (Blk.mk .fix [(.int .i64 0), (.int .i64 0), (.int .i64 0), (.int .i64 0)])]) = some ((.agg ⟨[(.int .i64 x0), (.int .i64 x1), (.int .i64 x2), (.int .i64 x3)]⟩), h2)) ∧ eqV (.agg ⟨[(.int .i64 x0), (.int .i64 x1), (.int .i64 x2), (.int .i64 x3)]⟩) (.agg ⟨[(.int .i64 x0), (.int .i64 x1), (.int .i64 x2), (.int .i64 x3)]⟩) = true)
 (.claim ((∃ h2, opA (Plain.env tblC gK) (.call 24 [(.const l)]) [] (((H1 ++ [some (Blk.mk .fix [(.int .i64 0), (.int .i64 0), (.int .i64 0), (.int .i64 0)])]) ++ [some (Blk.mk .fix [(.int .i64 0), (.int .i64 0), (.int .i64 0), (.int .i64 0)])]) ++ [some (Blk.mk .fix [(.int .i64 0), (.int .i64 0), (.int .i64 0), (.int .i64 0)])]) = some ((.agg ⟨[(.int .i64 x0), (.int .i64 x1), (.int .i64 x2), (.int .i64 x3)]⟩), h2)) ∧ eqV (.agg ⟨[(.int .i64 x0), (.int .i64 x1), (.int .i64 x2), (.int .i64 x3)]⟩) (.agg ⟨[(.int .i64 x0), (.int .i64 x1), (.int .i64 x2), (.int .i64 x3)]⟩) = true)
 (.claim ((∃ h2, opA (Plain.env tblC gK) (.call 24 [(.const lb)]) [] (H1 ++ [some (Blk.mk .fix [(.int .i64 0), (.int .i64 0), (.int .i64 0), (.int .i64 0)])]) = some ((.agg ⟨[(.int .i64 y0), (.int .i64 y1), (.int .i64 y2), (.int .i64 y3)]⟩), h2)) ∧ eqV (.agg ⟨[(.int .i64 y0), (.int .i64 y1), (.int .i64 y2), (.int .i64 y3)]⟩) (.agg ⟨[(.int .i64 y0), (.int .i64 y1), (.int .i64 y2), (.int .i64 y3)]⟩) = true)
 (.claim ((∃ h2, opA (Plain.env tblC gK) (.call 24 [(.const lb)]) [] ((H1 ++ [some (Blk.mk .fix [(.int .i64 0), (.int .i64 0), (.int .i64 0), (.int .i64 0)])]) ++ [some (Blk.mk .fix [(.int .i64 0), (.int .i64 0), (.int .i64 0), (.int .i64 0)])]) = some ((.agg ⟨[(.int .i64 y0), (.int .i64 y1), (.int .i64 y2), (.int .i64 y3)]⟩), h2)) ∧ eqV (.agg ⟨[(.int .i64 y0), (.int .i64 y1), (.int .i64 y2), (.int .i64 y3)]⟩) (.agg ⟨[(.int .i64 y0), (.int .i64 y1), (.int .i64 y2), (.int .i64 y3)]⟩) = true)
 (.claim ((∃ h2, opA (Plain.env tblC gK) (.call 24 [(.const lb)]) [] (((H1 ++ [some (Blk.mk .fix [(.int .i64 0), (.int .i64 0), (.int .i64 0), (.int .i64 0)])]) ++ [some (Blk.mk .fix [(.int .i64 0), (.int .i64 0), (.int .i64 0), (.int .i64 0)])]) ++ [some (Blk.mk .fix [(.int .i64 0), (.int .i64 0), (.int .i64 0), (.int .i64 0)])]) = some ((.agg ⟨[(.int .i64 y0), (.int .i64 y1), (.int .i64 y2), (.int .i64 y3)]⟩), h2)) ∧ eqV (.agg ⟨[(.int .i64 y0), (.int .i64 y1), (.int .i64 y2), (.int .i64 y3)]⟩) (.agg ⟨[(.int .i64 y0), (.int .i64 y1), (.int .i64 y2), (.int .i64 y3)]⟩) = true)
 (.claim ((∃ h2, opA (Plain.env tblC gK) (.call 24 [(.const lc)]) [] (H1 ++ [some (Blk.mk .fix [(.int .i64 0), (.int .i64 0), (.int .i64 0), (.int .i64 0)])]) = some ((.agg ⟨[(.int .i64 z0), (.int .i64 z1), (.int .i64 z2), (.int .i64 z3)]⟩), h2)) ∧ eqV (.agg ⟨[(.int .i64 z0), (.int .i64 z1), (.int .i64 z2), (.int .i64 z3)]⟩) (.agg ⟨[(.int .i64 z0), (.int .i64 z1), (.int .i64 z2), (.int .i64 z3)]⟩) = true)
 (.claim ((∃ h2, opA (Plain.env tblC gK) (.call 24 [(.const lc)]) [] ((H1 ++ [some (Blk.mk .fix [(.int .i64 0), (.int .i64 0), (.int .i64 0), (.int .i64 0)])]) ++ [some (Blk.mk .fix [(.int .i64 0), (.int .i64 0), (.int .i64 0), (.int .i64 0)])]) = some ((.agg ⟨[(.int .i64 z0), (.int .i64 z1), (.int .i64 z2), (.int .i64 z3)]⟩), h2)) ∧ eqV (.agg ⟨[(.int .i64 z0), (.int .i64 z1), (.int .i64 z2), (.int .i64 z3)]⟩) (.agg ⟨[(.int .i64 z0), (.int .i64 z1), (.int .i64 z2), (.int .i64 z3)]⟩) = true)
 (.claim ((∃ h2, opA (Plain.env tblC gK) (.call 24 [(.const lc)]) [] (((H1 ++ [some (Blk.mk .fix [(.int .i64 0), (.int .i64 0), (.int .i64 0), (.int .i64 0)])]) ++ [some (Blk.mk .fix [(.int .i64 0), (.int .i64 0), (.int .i64 0), (.int .i64 0)])]) ++ [some (Blk.mk .fix [(.int .i64 0), (.int .i64 0), (.int .i64 0), (.int .i64 0)])]) = some ((.agg ⟨[(.int .i64 z0), (.int .i64 z1), (.int .i64 z2), (.int .i64 z3)]⟩), h2)) ∧ eqV (.agg ⟨[(.int .i64 z0), (.int .i64 z1), (.int .i64 z2), (.int .i64 z3)]⟩) (.agg ⟨[(.int .i64 z0), (.int .i64 z1), (.int .i64 z2), (.int .i64 z3)]⟩) = true)
 (.req true (.claim (opA (Plain.env tblC gK) (.load (.const (.pointer (some ⟨(H1).length, 0, none⟩))) none) [] (((H1 ++ [some (Blk.mk .fix [(.int .i64 x0), (.int .i64 x1), (.int .i64 x2), (.int .i64 x3)])]) ++ [some (Blk.mk .fix [(.int .i64 y0), (.int .i64 y1), (.int .i64 y2), (.int .i64 y3)])]) ++ [some (Blk.mk .fix [(.int .i64 z0), (.int .i64 z1), (.int .i64 z2), (.int .i64 z3)])]) = some ((.int .i64 x0), (((H1 ++ [some (Blk.mk .fix [(.int .i64 x0), (.int .i64 x1), (.int .i64 x2), (.int .i64 x3)])]) ++ [some (Blk.mk .fix [(.int .i64 y0), (.int .i64 y1), (.int .i64 y2), (.int .i64 y3)])]) ++ [some (Blk.mk .fix [(.int .i64 z0), (.int .i64 z1), (.int .i64 z2), (.int .i64 z3)])])))
 (.claim (opA (Plain.env tblC gK) (.load (.const (.pointer (some ⟨((H1 ++ [some (Blk.mk .fix [(.int .i64 0), (.int .i64 0), (.int .i64 0), (.int .i64 0)])])).length, 0, none⟩))) none) [] (((H1 ++ [some (Blk.mk .fix [(.int .i64 x0), (.int .i64 x1), (.int .i64 x2), (.int .i64 x3)])]) ++ [some (Blk.mk .fix [(.int .i64 y0), (.int .i64 y1), (.int .i64 y2), (.int .i64 y3)])]) ++ [some (Blk.mk .fix [(.int .i64 z0), (.int .i64 z1), (.int .i64 z2), (.int .i64 z3)])]) = some ((.int .i64 y0), (((H1 ++ [some (Blk.mk .fix [(.int .i64 x0), (.int .i64 x1), (.int .i64 x2), (.int .i64 x3)])]) ++ [some (Blk.mk .fix [(.int .i64 y0), (.int .i64 y1), (.int .i64 y2), (.int .i64 y3)])]) ++ [some (Blk.mk .fix [(.int .i64 z0), (.int .i64 z1), (.int .i64 z2), (.int .i64 z3)])])))
 (.claim (opA (Plain.env tblC gK) (.load (.const (.pointer (some ⟨(((H1 ++ [some (Blk.mk .fix [(.int .i64 0), (.int .i64 0), (.int .i64 0), (.int .i64 0)])]) ++ [some (Blk.mk .fix [(.int .i64 0), (.int .i64 0), (.int .i64 0), (.int .i64 0)])])).length, 0, none⟩))) none) [] (((H1 ++ [some (Blk.mk .fix [(.int .i64 x0), (.int .i64 x1), (.int .i64 x2), (.int .i64 x3)])]) ++ [some (Blk.mk .fix [(.int .i64 y0), (.int .i64 y1), (.int .i64 y2), (.int .i64 y3)])]) ++ [some (Blk.mk .fix [(.int .i64 z0), (.int .i64 z1), (.int .i64 z2), (.int .i64 z3)])]) = some ((.int .i64 z0), (((H1 ++ [some (Blk.mk .fix [(.int .i64 x0), (.int .i64 x1), (.int .i64 x2), (.int .i64 x3)])]) ++ [some (Blk.mk .fix [(.int .i64 y0), (.int .i64 y1), (.int .i64 y2), (.int .i64 y3)])]) ++ [some (Blk.mk .fix [(.int .i64 z0), (.int .i64 z1), (.int .i64 z2), (.int .i64 z3)])])))
 (.req (!(x0 != (IntKind.wrap .i64 (y0 + z0)))) (.req (!(decide (0 ≥ a3))) (.req true (.claim (opA (Plain.env tblC gK) (.load (.const (.pointer (some ⟨(H1).length, 1, none⟩))) none) [] (((H1 ++ [some (Blk.mk .fix [(.int .i64 x0), (.int .i64 x1), (.int .i64 x2), (.int .i64 x3)])]) ++ [some (Blk.mk .fix [(.int .i64 y0), (.int .i64 y1), (.int .i64 y2), (.int .i64 y3)])]) ++ [some (Blk.mk .fix [(.int .i64 z0), (.int .i64 z1), (.int .i64 z2), (.int .i64 z3)])]) = some ((.int .i64 x1), (((H1 ++ [some (Blk.mk .fix [(.int .i64 x0), (.int .i64 x1), (.int .i64 x2), (.int .i64 x3)])]) ++ [some (Blk.mk .fix [(.int .i64 y0), (.int .i64 y1), (.int .i64 y2), (.int .i64 y3)])]) ++ [some (Blk.mk .fix [(.int .i64 z0), (.int .i64 z1), (.int .i64 z2), (.int .i64 z3)])])))
 (.claim (opA (Plain.env tblC gK) (.load (.const (.pointer (some ⟨((H1 ++ [some (Blk.mk .fix [(.int .i64 0), (.int .i64 0), (.int .i64 0), (.int .i64 0)])])).length, 1, none⟩))) none) [] (((H1 ++ [some (Blk.mk .fix [(.int .i64 x0), (.int .i64 x1), (.int .i64 x2), (.int .i64 x3)])]) ++ [some (Blk.mk .fix [(.int .i64 y0), (.int .i64 y1), (.int .i64 y2), (.int .i64 y3)])]) ++ [some (Blk.mk .fix [(.int .i64 z0), (.int .i64 z1), (.int .i64 z2), (.int .i64 z3)])]) = some ((.int .i64 y1), (((H1 ++ [some (Blk.mk .fix [(.int .i64 x0), (.int .i64 x1), (.int .i64 x2), (.int .i64 x3)])]) ++ [some (Blk.mk .fix [(.int .i64 y0), (.int .i64 y1), (.int .i64 y2), (.int .i64 y3)])]) ++ [some (Blk.mk .fix [(.int .i64 z0), (.int .i64 z1), (.int .i64 z2), (.int .i64 z3)])])))
 (.claim (opA (Plain.env tblC gK) (.load (.const (.pointer (some ⟨(((H1 ++ [some (Blk.mk .fix [(.int .i64 0), (.int .i64 0), (.int .i64 0), (.int .i64 0)])]) ++ [some (Blk.mk .fix [(.int .i64 0), (.int .i64 0), (.int .i64 0), (.int .i64 0)])])).length, 1, none⟩))) none) [] (((H1 ++ [some (Blk.mk .fix [(.int .i64 x0), (.int .i64 x1), (.int .i64 x2), (.int .i64 x3)])]) ++ [some (Blk.mk .fix [(.int .i64 y0), (.int .i64 y1), (.int .i64 y2), (.int .i64 y3)])]) ++ [some (Blk.mk .fix [(.int .i64 z0), (.int .i64 z1), (.int .i64 z2), (.int .i64 z3)])]) = some ((.int .i64 z1), (((H1 ++ [some (Blk.mk .fix [(.int .i64 x0), (.int .i64 x1), (.int .i64 x2), (.int .i64 x3)])]) ++ [some (Blk.mk .fix [(.int .i64 y0), (.int .i64 y1), (.int .i64 y2), (.int .i64 y3)])]) ++ [some (Blk.mk .fix [(.int .i64 z0), (.int .i64 z1), (.int .i64 z2), (.int .i64 z3)])])))
 (.req (!(x1 != (IntKind.wrap .i64 (y1 + z1)))) (.req (decide (1 ≥ a3)) (.claim (opA (Plain.env tblC gK) (.load (.const (.pointer (some ⟨(H1).length, 1, none⟩))) none) [] (((H1 ++ [some (Blk.mk .fix [(.int .i64 x0), (.int .i64 x1), (.int .i64 x2), (.int .i64 x3)])]) ++ [some (Blk.mk .fix [(.int .i64 y0), (.int .i64 y1), (.int .i64 y2), (.int .i64 y3)])]) ++ [some (Blk.mk .fix [(.int .i64 z0), (.int .i64 z1), (.int .i64 z2), (.int .i64 z3)])]) = some ((.int .i64 x1), (((H1 ++ [some (Blk.mk .fix [(.int .i64 x0), (.int .i64 x1), (.int .i64 x2), (.int .i64 x3)])]) ++ [some (Blk.mk .fix [(.int .i64 y0), (.int .i64 y1), (.int .i64 y2), (.int .i64 y3)])]) ++ [some (Blk.mk .fix [(.int .i64 z0), (.int .i64 z1), (.int .i64 z2), (.int .i64 z3)])])))
 (.req true (.claim (opA (Plain.env tblC gK) (.load (.const (.pointer (some ⟨(H1).length, 2, none⟩))) none) [] (((H1 ++ [some (Blk.mk .fix [(.int .i64 x0), (.int .i64 x1), (.int .i64 x2), (.int .i64 x3)])]) ++ [some (Blk.mk .fix [(.int .i64 y0), (.int .i64 y1), (.int .i64 y2), (.int .i64 y3)])]) ++ [some (Blk.mk .fix [(.int .i64 z0), (.int .i64 z1), (.int .i64 z2), (.int .i64 z3)])]) = some ((.int .i64 x2), (((H1 ++ [some (Blk.mk .fix [(.int .i64 x0), (.int .i64 x1), (.int .i64 x2), (.int .i64 x3)])]) ++ [some (Blk.mk .fix [(.int .i64 y0), (.int .i64 y1), (.int .i64 y2), (.int .i64 y3)])]) ++ [some (Blk.mk .fix [(.int .i64 z0), (.int .i64 z1), (.int .i64 z2), (.int .i64 z3)])])))
 (.claim (opA (Plain.env tblC gK) (.load (.const (.pointer (some ⟨((H1 ++ [some (Blk.mk .fix [(.int .i64 0), (.int .i64 0), (.int .i64 0), (.int .i64 0)])])).length, 2, none⟩))) none) [] (((H1 ++ [some (Blk.mk .fix [(.int .i64 x0), (.int .i64 x1), (.int .i64 x2), (.int .i64 x3)])]) ++ [some (Blk.mk .fix [(.int .i64 y0), (.int .i64 y1), (.int .i64 y2), (.int .i64 y3)])]) ++ [some (Blk.mk .fix [(.int .i64 z0), (.int .i64 z1), (.int .i64 z2), (.int .i64 z3)])]) = some ((.int .i64 y2), (((H1 ++ [some (Blk.mk .fix [(.int .i64 x0), (.int .i64 x1), (.int .i64 x2), (.int .i64 x3)])]) ++ [some (Blk.mk .fix [(.int .i64 y0), (.int .i64 y1), (.int .i64 y2), (.int .i64 y3)])]) ++ [some (Blk.mk .fix [(.int .i64 z0), (.int .i64 z1), (.int .i64 z2), (.int .i64 z3)])])))
 (.claim (opA (Plain.env tblC gK) (.load (.const (.pointer (some ⟨(((H1 ++ [some (Blk.mk .fix [(.int .i64 0), (.int .i64 0), (.int .i64 0), (.int .i64 0)])]) ++ [some (Blk.mk .fix [(.int .i64 0), (.int .i64 0), (.int .i64 0), (.int .i64 0)])])).length, 2, none⟩))) none) [] (((H1 ++ [some (Blk.mk .fix [(.int .i64 x0), (.int .i64 x1), (.int .i64 x2), (.int .i64 x3)])]) ++ [some (Blk.mk .fix [(.int .i64 y0), (.int .i64 y1), (.int .i64 y2), (.int .i64 y3)])]) ++ [some (Blk.mk .fix [(.int .i64 z0), (.int .i64 z1), (.int .i64 z2), (.int .i64 z3)])]) = some ((.int .i64 z2), (((H1 ++ [some (Blk.mk .fix [(.int .i64 x0), (.int .i64 x1), (.int .i64 x2), (.int .i64 x3)])]) ++ [some (Blk.mk .fix [(.int .i64 y0), (.int .i64 y1), (.int .i64 y2), (.int .i64 y3)])]) ++ [some (Blk.mk .fix [(.int .i64 z0), (.int .i64 z1), (.int .i64 z2), (.int .i64 z3)])])))
 (.req (!(x2 != (IntKind.wrap .i64 (y2 + z2)))) (.req (decide (2 ≥ a3)) (.claim (opA (Plain.env tblC gK) (.load (.const (.pointer (some ⟨(H1).length, 2, none⟩))) none) [] (((H1 ++ [some (Blk.mk .fix [(.int .i64 x0), (.int .i64 x1), (.int .i64 x2), (.int .i64 x3)])]) ++ [some (Blk.mk .fix [(.int .i64 y0), (.int .i64 y1), (.int .i64 y2), (.int .i64 y3)])]) ++ [some (Blk.mk .fix [(.int .i64 z0), (.int .i64 z1), (.int .i64 z2), (.int .i64 z3)])]) = some ((.int .i64 x2), (((H1 ++ [some (Blk.mk .fix [(.int .i64 x0), (.int .i64 x1), (.int .i64 x2), (.int .i64 x3)])]) ++ [some (Blk.mk .fix [(.int .i64 y0), (.int .i64 y1), (.int .i64 y2), (.int .i64 y3)])]) ++ [some (Blk.mk .fix [(.int .i64 z0), (.int .i64 z1), (.int .i64 z2), (.int .i64 z3)])])))
 (.req true (.claim (opA (Plain.env tblC gK) (.load (.const (.pointer (some ⟨(H1).length, 3, none⟩))) none) [] (((H1 ++ [some (Blk.mk .fix [(.int .i64 x0), (.int .i64 x1), (.int .i64 x2), (.int .i64 x3)])]) ++ [some (Blk.mk .fix [(.int .i64 y0), (.int .i64 y1), (.int .i64 y2), (.int .i64 y3)])]) ++ [some (Blk.mk .fix [(.int .i64 z0), (.int .i64 z1), (.int .i64 z2), (.int .i64 z3)])]) = some ((.int .i64 x3), (((H1 ++ [some (Blk.mk .fix [(.int .i64 x0), (.int .i64 x1), (.int .i64 x2), (.int .i64 x3)])]) ++ [some (Blk.mk .fix [(.int .i64 y0), (.int .i64 y1), (.int .i64 y2), (.int .i64 y3)])]) ++ [some (Blk.mk .fix [(.int .i64 z0), (.int .i64 z1), (.int .i64 z2), (.int .i64 z3)])])))
 (.claim (opA (Plain.env tblC gK) (.load (.const (.pointer (some ⟨((H1 ++ [some (Blk.mk .fix [(.int .i64 0), (.int .i64 0), (.int .i64 0), (.int .i64 0)])])).length, 3, none⟩))) none) [] (((H1 ++ [some (Blk.mk .fix [(.int .i64 x0), (.int .i64 x1), (.int .i64 x2), (.int .i64 x3)])]) ++ [some (Blk.mk .fix [(.int .i64 y0), (.int .i64 y1), (.int .i64 y2), (.int .i64 y3)])]) ++ [some (Blk.mk .fix [(.int .i64 z0), (.int .i64 z1), (.int .i64 z2), (.int .i64 z3)])]) = some ((.int .i64 y3), (((H1 ++ [some (Blk.mk .fix [(.int .i64 x0), (.int .i64 x1), (.int .i64 x2), (.int .i64 x3)])]) ++ [some (Blk.mk .fix [(.int .i64 y0), (.int .i64 y1), (.int .i64 y2), (.int .i64 y3)])]) ++ [some (Blk.mk .fix [(.int .i64 z0), (.int .i64 z1), (.int .i64 z2), (.int .i64 z3)])])))
 (.claim (opA (Plain.env tblC gK) (.load (.const (.pointer (some ⟨(((H1 ++ [some (Blk.mk .fix [(.int .i64 0), (.int .i64 0), (.int .i64 0), (.int .i64 0)])]) ++ [some (Blk.mk .fix [(.int .i64 0), (.int .i64 0), (.int .i64 0), (.int .i64 0)])])).length, 3, none⟩))) none) [] (((H1 ++ [some (Blk.mk .fix [(.int .i64 x0), (.int .i64 x1), (.int .i64 x2), (.int .i64 x3)])]) ++ [some (Blk.mk .fix [(.int .i64 y0), (.int .i64 y1), (.int .i64 y2), (.int .i64 y3)])]) ++ [some (Blk.mk .fix [(.int .i64 z0), (.int .i64 z1), (.int .i64 z2), (.int .i64 z3)])]) = some ((.int .i64 z3), (((H1 ++ [some (Blk.mk .fix [(.int .i64 x0), (.int .i64 x1), (.int .i64 x2), (.int .i64 x3)])]) ++ [some (Blk.mk .fix [(.int .i64 y0), (.int .i64 y1), (.int .i64 y2), (.int .i64 y3)])]) ++ [some (Blk.mk .fix [(.int .i64 z0), (.int .i64 z1), (.int .i64 z2), (.int .i64 z3)])])))
 (.req (!(x3 != (IntKind.wrap .i64 (y3 + z3)))) (.req (decide (3 ≥ a3)) (.claim (opA (Plain.env tblC gK) (.load (.const (.pointer (some ⟨(H1).length, 3, none⟩))) none) [] (((H1 ++ [some (Blk.mk .fix [(.int .i64 x0), (.int .i64 x1), (.int .i64 x2), (.int .i64 x3)])]) ++ [some (Blk.mk .fix [(.int .i64 y0), (.int .i64 y1), (.int .i64 y2), (.int .i64 y3)])]) ++ [some (Blk.mk .fix [(.int .i64 z0), (.int .i64 z1), (.int .i64 z2), (.int .i64 z3)])]) = some ((.int .i64 x3), (((H1 ++ [some (Blk.mk .fix [(.int .i64 x0), (.int .i64 x1), (.int .i64 x2), (.int .i64 x3)])]) ++ [some (Blk.mk .fix [(.int .i64 y0), (.int .i64 y1), (.int .i64 y2), (.int .i64 y3)])]) ++ [some (Blk.mk .fix [(.int .i64 z0), (.int .i64 z1), (.int .i64 z2), (.int .i64 z3)])])))
 (.req true (.claim (opA (Plain.env tblC gK) (.load (.const (.pointer (some ⟨(H1).length, 0, none⟩))) (some 4)) [] (((H1 ++ [some (Blk.mk .fix [(.int .i64 x0), (.int .i64 x1), (.int .i64 x2), (.int .i64 x3)])]) ++ [some (Blk.mk .fix [(.int .i64 y0), (.int .i64 y1), (.int .i64 y2), (.int .i64 y3)])]) ++ [some (Blk.mk .fix [(.int .i64 z0), (.int .i64 z1), (.int .i64 z2), (.int .i64 z3)])]) = some ((.agg ⟨[(.int .i64 x0), (.int .i64 x1), (.int .i64 x2), (.int .i64 x3)]⟩), (((H1 ++ [some (Blk.mk .fix [(.int .i64 x0), (.int .i64 x1), (.int .i64 x2), (.int .i64 x3)])]) ++ [some (Blk.mk .fix [(.int .i64 y0), (.int .i64 y1), (.int .i64 y2), (.int .i64 y3)])]) ++ [some (Blk.mk .fix [(.int .i64 z0), (.int .i64 z1), (.int .i64 z2), (.int .i64 z3)])])))
 (.claim (opA (Plain.env tblC gK) (.call 26 [(.const r)]) [] (((H1 ++ [some (Blk.mk .fix [(.int .i64 x0), (.int .i64 x1), (.int .i64 x2), (.int .i64 x3)])]) ++ [some (Blk.mk .fix [(.int .i64 y0), (.int .i64 y1), (.int .i64 y2), (.int .i64 y3)])]) ++ [some (Blk.mk .fix [(.int .i64 z0), (.int .i64 z1), (.int .i64 z2), (.int .i64 z3)])]) = some ((.agg ⟨[(.int .i64 x0), (.int .i64 x1), (.int .i64 x2), (.int .i64 x3)]⟩), (((H1 ++ [some (Blk.mk .fix [(.int .i64 x0), (.int .i64 x1), (.int .i64 x2), (.int .i64 x3)])]) ++ [some (Blk.mk .fix [(.int .i64 y0), (.int .i64 y1), (.int .i64 y2), (.int .i64 y3)])]) ++ [some (Blk.mk .fix [(.int .i64 z0), (.int .i64 z1), (.int .i64 z2), (.int .i64 z3)])])))
 (.req ((x0 == x0) && ((x1 == x1) && ((x2 == x2) && ((x3 == x3) && true)))) (.claim (opA (Plain.env tblC gK) (.load (.const (.pointer (some ⟨(H1).length, 0, none⟩))) (some 4)) [] (((H1 ++ [some (Blk.mk .fix [(.int .i64 x0), (.int .i64 x1), (.int .i64 x2), (.int .i64 x3)])]) ++ [some (Blk.mk .fix [(.int .i64 y0), (.int .i64 y1), (.int .i64 y2), (.int .i64 y3)])]) ++ [some (Blk.mk .fix [(.int .i64 z0), (.int .i64 z1), (.int .i64 z2), (.int .i64 z3)])]) = some ((.agg ⟨[(.int .i64 x0), (.int .i64 x1), (.int .i64 x2), (.int .i64 x3)]⟩), (((H1 ++ [some (Blk.mk .fix [(.int .i64 x0), (.int .i64 x1), (.int .i64 x2), (.int .i64 x3)])]) ++ [some (Blk.mk .fix [(.int .i64 y0), (.int .i64 y1), (.int .i64 y2), (.int .i64 y3)])]) ++ [some (Blk.mk .fix [(.int .i64 z0), (.int .i64 z1), (.int .i64 z2), (.int .i64 z3)])])))
 (.req true (.req ((fromB ⟨x0, x1, x2, x3⟩ a3) == (IntKind.wrap .i64 ((IntKind.wrap .i64 ((IntKind.wrap .i64 (0 + x1)) + x2)) + x3))) (.claim (opA (Plain.env tblC gK) (.load (.const (.pointer (some ⟨(H1).length, 0, none⟩))) (some 4)) [] (((H1 ++ [some (Blk.mk .fix [(.int .i64 x0), (.int .i64 x1), (.int .i64 x2), (.int .i64 x3)])]) ++ [some (Blk.mk .fix [(.int .i64 y0), (.int .i64 y1), (.int .i64 y2), (.int .i64 y3)])]) ++ [some (Blk.mk .fix [(.int .i64 z0), (.int .i64 z1), (.int .i64 z2), (.int .i64 z3)])]) = some ((.agg ⟨[(.int .i64 x0), (.int .i64 x1), (.int .i64 x2), (.int .i64 x3)]⟩), (((H1 ++ [some (Blk.mk .fix [(.int .i64 x0), (.int .i64 x1), (.int .i64 x2), (.int .i64 x3)])]) ++ [some (Blk.mk .fix [(.int .i64 y0), (.int .i64 y1), (.int .i64 y2), (.int .i64 y3)])]) ++ [some (Blk.mk .fix [(.int .i64 z0), (.int .i64 z1), (.int .i64 z2), (.int .i64 z3)])])))
 (.req true (.claim (opA (Plain.env tblC gK) (.call 29 [(.const r)]) [] (((H1 ++ [some (Blk.mk .fix [(.int .i64 x0), (.int .i64 x1), (.int .i64 x2), (.int .i64 x3)])]) ++ [some (Blk.mk .fix [(.int .i64 y0), (.int .i64 y1), (.int .i64 y2), (.int .i64 y3)])]) ++ [some (Blk.mk .fix [(.int .i64 z0), (.int .i64 z1), (.int .i64 z2), (.int .i64 z3)])]) = some ((.int .i64 bl), (((H1 ++ [some (Blk.mk .fix [(.int .i64 x0), (.int .i64 x1), (.int .i64 x2), (.int .i64 x3)])]) ++ [some (Blk.mk .fix [(.int .i64 y0), (.int .i64 y1), (.int .i64 y2), (.int .i64 y3)])]) ++ [some (Blk.mk .fix [(.int .i64 z0), (.int .i64 z1), (.int .i64 z2), (.int .i64 z3)])])))
 (.req ((fromB ⟨x0, x1, x2, x3⟩ 0) == bl) (.claim (opA (Plain.env tblC gK) (.call 24 [(.const (.slice none 0 0))]) [] (((H1 ++ [some (Blk.mk .fix [(.int .i64 x0), (.int .i64 x1), (.int .i64 x2), (.int .i64 x3)])]) ++ [some (Blk.mk .fix [(.int .i64 y0), (.int .i64 y1), (.int .i64 y2), (.int .i64 y3)])]) ++ [some (Blk.mk .fix [(.int .i64 z0), (.int .i64 z1), (.int .i64 z2), (.int .i64 z3)])]) = some ((.agg ⟨[(.int .i64 0), (.int .i64 0), (.int .i64 0), (.int .i64 0)]⟩), (((H1 ++ [some (Blk.mk .fix [(.int .i64 x0), (.int .i64 x1), (.int .i64 x2), (.int .i64 x3)])]) ++ [some (Blk.mk .fix [(.int .i64 y0), (.int .i64 y1), (.int .i64 y2), (.int .i64 y3)])]) ++ [some (Blk.mk .fix [(.int .i64 z0), (.int .i64 z1), (.int .i64 z2), (.int .i64 z3)])])))
 (.req true (.ret (pk .ret (fr 119 [(8, (.bool true))])) (((H1 ++ [some (Blk.mk .fix [(.int .i64 x0), (.int .i64 x1), (.int .i64 x2), (.int .i64 x3)])]) ++ [some (Blk.mk .fix [(.int .i64 y0), (.int .i64 y1), (.int .i64 y2), (.int .i64 y3)])]) ++ [some (Blk.mk .fix [(.int .i64 z0), (.int .i64 z1), (.int .i64 z2), (.int .i64 z3)])])))))))))))))))))))))))))))))))))))))))))))))))))))))))))))))))))))))) := by kernel_rfl
def hn9k2 (s0 s1 l r lb lc : Value) (a2 a3 n bl : Int) (x0 x1 x2 x3 : Int) (y0 y1 y2 y3 : Int) (z0 z1 z2 z3 : Int) (H H1 : Heap) : Hj := (.lp 0 [2, 3, 8, 9, 10] (fr 119 [(2, (.int .i64 a2)), (3, (.int .i64 a3)), (8, (.bool false)), (9, l), (10, r)]) H1 (.use 58 (.int .i64 n) H1 (.crs [none, some ((.agg ⟨[(.int .i64 x0), (.int .i64 x1), (.int .i64 x2), (.int .i64 x3)]⟩), H1), none, none, some (lb, H1), some ((.agg ⟨[(.int .i64 y0), (.int .i64 y1), (.int .i64 y2), (.int .i64 y3)]⟩), H1), none, none, some (lc, H1), some ((.agg ⟨[(.int .i64 z0), (.int .i64 z1), (.int .i64 z2), (.int .i64 z3)]⟩), H1), none, none, none, some ((.tuple ⟨[]⟩), (((H1 ++ [some (Blk.mk .fix [(.int .i64 x0), (.int .i64 x1), (.int .i64 x2), (.int .i64 x3)])]) ++ [some (Blk.mk .fix [(.int .i64 0), (.int .i64 0), (.int .i64 0), (.int .i64 0)])]) ++ [some (Blk.mk .fix [(.int .i64 0), (.int .i64 0), (.int .i64 0), (.int .i64 0)])])), some ((.tuple ⟨[]⟩), (((H1 ++ [some (Blk.mk .fix [(.int .i64 x0), (.int .i64 x1), (.int .i64 x2), (.int .i64 x3)])]) ++ [some (Blk.mk .fix [(.int .i64 y0), (.int .i64 y1), (.int .i64 y2), (.int .i64 y3)])]) ++ [some (Blk.mk .fix [(.int .i64 0), (.int .i64 0), (.int .i64 0), (.int .i64 0)])])), some ((.tuple ⟨[]⟩), (((H1 ++ [some (Blk.mk .fix [(.int .i64 x0), (.int .i64 x1), (.int .i64 x2), (.int .i64 x3)])]) ++ [some (Blk.mk .fix [(.int .i64 y0), (.int .i64 y1), (.int .i64 y2), (.int .i64 y3)])]) ++ [some (Blk.mk .fix [(.int .i64 z0), (.int .i64 z1), (.int .i64 z2), (.int .i64 z3)])]))] (.con (.use 75 (.int .i64 x0) (((H1 ++ [some (Blk.mk .fix [(.int .i64 x0), (.int .i64 x1), (.int .i64 x2), (.int .i64 x3)])]) ++ [some (Blk.mk .fix [(.int .i64 y0), (.int .i64 y1), (.int .i64 y2), (.int .i64 y3)])]) ++ [some (Blk.mk .fix [(.int .i64 z0), (.int .i64 z1), (.int .i64 z2), (.int .i64 z3)])]) (.use 78 (.int .i64 y0) (((H1 ++ [some (Blk.mk .fix [(.int .i64 x0), (.int .i64 x1), (.int .i64 x2), (.int .i64 x3)])]) ++ [some (Blk.mk .fix [(.int .i64 y0), (.int .i64 y1), (.int .i64 y2), (.int .i64 y3)])]) ++ [some (Blk.mk .fix [(.int .i64 z0), (.int .i64 z1), (.int .i64 z2), (.int .i64 z3)])]) (.use 81 (.int .i64 z0) (((H1 ++ [some (Blk.mk .fix [(.int .i64 x0), (.int .i64 x1), (.int .i64 x2), (.int .i64 x3)])]) ++ [some (Blk.mk .fix [(.int .i64 y0), (.int .i64 y1), (.int .i64 y2), (.int .i64 y3)])]) ++ [some (Blk.mk .fix [(.int .i64 z0), (.int .i64 z1), (.int .i64 z2), (.int .i64 z3)])]) (.no (.no (.con (.use 75 (.int .i64 x1) (((H1 ++ [some (Blk.mk .fix [(.int .i64 x0), (.int .i64 x1), (.int .i64 x2), (.int .i64 x3)])]) ++ [some (Blk.mk .fix [(.int .i64 y0), (.int .i64 y1), (.int .i64 y2), (.int .i64 y3)])]) ++ [some (Blk.mk .fix [(.int .i64 z0), (.int .i64 z1), (.int .i64 z2), (.int .i64 z3)])]) (.use 78 (.int .i64 y1) (((H1 ++ [some (Blk.mk .fix [(.int .i64 x0), (.int .i64 x1), (.int .i64 x2), (.int .i64 x3)])]) ++ [some (Blk.mk .fix [(.int .i64 y0), (.int .i64 y1), (.int .i64 y2), (.int .i64 y3)])]) ++ [some (Blk.mk .fix [(.int .i64 z0), (.int .i64 z1), (.int .i64 z2), (.int .i64 z3)])]) (.use 81 (.int .i64 z1) (((H1 ++ [some (Blk.mk .fix [(.int .i64 x0), (.int .i64 x1), (.int .i64 x2), (.int .i64 x3)])]) ++ [some (Blk.mk .fix [(.int .i64 y0), (.int .i64 y1), (.int .i64 y2), (.int .i64 y3)])]) ++ [some (Blk.mk .fix [(.int .i64 z0), (.int .i64 z1), (.int .i64 z2), (.int .i64 z3)])]) (.no (.no (.con (.use 75 (.int .i64 x2) (((H1 ++ [some (Blk.mk .fix [(.int .i64 x0), (.int .i64 x1), (.int .i64 x2), (.int .i64 x3)])]) ++ [some (Blk.mk .fix [(.int .i64 y0), (.int .i64 y1), (.int .i64 y2), (.int .i64 y3)])]) ++ [some (Blk.mk .fix [(.int .i64 z0), (.int .i64 z1), (.int .i64 z2), (.int .i64 z3)])]) (.use 78 (.int .i64 y2) (((H1 ++ [some (Blk.mk .fix [(.int .i64 x0), (.int .i64 x1), (.int .i64 x2), (.int .i64 x3)])]) ++ [some (Blk.mk .fix [(.int .i64 y0), (.int .i64 y1), (.int .i64 y2), (.int .i64 y3)])]) ++ [some (Blk.mk .fix [(.int .i64 z0), (.int .i64 z1), (.int .i64 z2), (.int .i64 z3)])]) (.use 81 (.int .i64 z2) (((H1 ++ [some (Blk.mk .fix [(.int .i64 x0), (.int .i64 x1), (.int .i64 x2), (.int .i64 x3)])]) ++ [some (Blk.mk .fix [(.int .i64 y0), (.int .i64 y1), (.int .i64 y2), (.int .i64 y3)])]) ++ [some (Blk.mk .fix [(.int .i64 z0), (.int .i64 z1), (.int .i64 z2), (.int .i64 z3)])]) (.no (.yes (.use 90 (.int .i64 x2) (((H1 ++ [some (Blk.mk .fix [(.int .i64 x0), (.int .i64 x1), (.int .i64 x2), (.int .i64 x3)])]) ++ [some (Blk.mk .fix [(.int .i64 y0), (.int .i64 y1), (.int .i64 y2), (.int .i64 y3)])]) ++ [some (Blk.mk .fix [(.int .i64 z0), (.int .i64 z1), (.int .i64 z2), (.int .i64 z3)])]) (.con (.use 75 (.int .i64 x3) (((H1 ++ [some (Blk.mk .fix [(.int .i64 x0), (.int .i64 x1), (.int .i64 x2), (.int .i64 x3)])]) ++ [some (Blk.mk .fix [(.int .i64 y0), (.int .i64 y1), (.int .i64 y2), (.int .i64 y3)])]) ++ [some (Blk.mk .fix [(.int .i64 z0), (.int .i64 z1), (.int .i64 z2), (.int .i64 z3)])]) (.use 78 (.int .i64 y3) (((H1 ++ [some (Blk.mk .fix [(.int .i64 x0), (.int .i64 x1), (.int .i64 x2), (.int .i64 x3)])]) ++ [some (Blk.mk .fix [(.int .i64 y0), (.int .i64 y1), (.int .i64 y2), (.int .i64 y3)])]) ++ [some (Blk.mk .fix [(.int .i64 z0), (.int .i64 z1), (.int .i64 z2), (.int .i64 z3)])]) (.use 81 (.int .i64 z3) (((H1 ++ [some (Blk.mk .fix [(.int .i64 x0), (.int .i64 x1), (.int .i64 x2), (.int .i64 x3)])]) ++ [some (Blk.mk .fix [(.int .i64 y0), (.int .i64 y1), (.int .i64 y2), (.int .i64 y3)])]) ++ [some (Blk.mk .fix [(.int .i64 z0), (.int .i64 z1), (.int .i64 z2), (.int .i64 z3)])]) (.no (.yes (.use 90 (.int .i64 x3) (((H1 ++ [some (Blk.mk .fix [(.int .i64 x0), (.int .i64 x1), (.int .i64 x2), (.int .i64 x3)])]) ++ [some (Blk.mk .fix [(.int .i64 y0), (.int .i64 y1), (.int .i64 y2), (.int .i64 y3)])]) ++ [some (Blk.mk .fix [(.int .i64 z0), (.int .i64 z1), (.int .i64 z2), (.int .i64 z3)])]) (.con (.use 93 (.agg ⟨[(.int .i64 x0), (.int .i64 x1), (.int .i64 x2), (.int .i64 x3)]⟩) (((H1 ++ [some (Blk.mk .fix [(.int .i64 x0), (.int .i64 x1), (.int .i64 x2), (.int .i64 x3)])]) ++ [some (Blk.mk .fix [(.int .i64 y0), (.int .i64 y1), (.int .i64 y2), (.int .i64 y3)])]) ++ [some (Blk.mk .fix [(.int .i64 z0), (.int .i64 z1), (.int .i64 z2), (.int .i64 z3)])]) (.use 95 (.agg ⟨[(.int .i64 x0), (.int .i64 x1), (.int .i64 x2), (.int .i64 x3)]⟩) (((H1 ++ [some (Blk.mk .fix [(.int .i64 x0), (.int .i64 x1), (.int .i64 x2), (.int .i64 x3)])]) ++ [some (Blk.mk .fix [(.int .i64 y0), (.int .i64 y1), (.int .i64 y2), (.int .i64 y3)])]) ++ [some (Blk.mk .fix [(.int .i64 z0), (.int .i64 z1), (.int .i64 z2), (.int .i64 z3)])]) (.yes (.use 98 (.agg ⟨[(.int .i64 x0), (.int .i64 x1), (.int .i64 x2), (.int .i64 x3)]⟩) (((H1 ++ [some (Blk.mk .fix [(.int .i64 x0), (.int .i64 x1), (.int .i64 x2), (.int .i64 x3)])]) ++ [some (Blk.mk .fix [(.int .i64 y0), (.int .i64 y1), (.int .i64 y2), (.int .i64 y3)])]) ++ [some (Blk.mk .fix [(.int .i64 z0), (.int .i64 z1), (.int .i64 z2), (.int .i64 z3)])]) (.con (.con (.con (.con (.con (.yes (.use 105 (.agg ⟨[(.int .i64 x0), (.int .i64 x1), (.int .i64 x2), (.int .i64 x3)]⟩) (((H1 ++ [some (Blk.mk .fix [(.int .i64 x0), (.int .i64 x1), (.int .i64 x2), (.int .i64 x3)])]) ++ [some (Blk.mk .fix [(.int .i64 y0), (.int .i64 y1), (.int .i64 y2), (.int .i64 y3)])]) ++ [some (Blk.mk .fix [(.int .i64 z0), (.int .i64 z1), (.int .i64 z2), (.int .i64 z3)])]) (.con (.con (.con (.use 108 (.int .i64 bl) (((H1 ++ [some (Blk.mk .fix [(.int .i64 x0), (.int .i64 x1), (.int .i64 x2), (.int .i64 x3)])]) ++ [some (Blk.mk .fix [(.int .i64 y0), (.int .i64 y1), (.int .i64 y2), (.int .i64 y3)])]) ++ [some (Blk.mk .fix [(.int .i64 z0), (.int .i64 z1), (.int .i64 z2), (.int .i64 z3)])]) (.con (.con (.yes (.use 112 (.agg ⟨[(.int .i64 0), (.int .i64 0), (.int .i64 0), (.int .i64 0)]⟩) (((H1 ++ [some (Blk.mk .fix [(.int .i64 x0), (.int .i64 x1), (.int .i64 x2), (.int .i64 x3)])]) ++ [some (Blk.mk .fix [(.int .i64 y0), (.int .i64 y1), (.int .i64 y2), (.int .i64 y3)])]) ++ [some (Blk.mk .fix [(.int .i64 z0), (.int .i64 z1), (.int .i64 z2), (.int .i64 z3)])]) (.con (.con (.con (.con (.con .nil))))))))))))))))))))))))))))))))))))))))))))))))))))))
theorem tree9k2 (s0 s1 l r lb lc : Value) (a2 a3 n bl : Int) (x0 x1 x2 x3 : Int) (y0 y1 y2 y3 : Int) (z0 z1 z2 z3 : Int) (H H1 : Heap) : pieceT tblC gK 200 (resLv [.tmp 8]) il9.body (hn9k2 s0 s1 l r lb lc a2 a3 n bl x0 x1 x2 x3 y0 y1 y2 y3 z0 z1 z2 z3 H H1) (fr 119 [(0, s0), (1, s1), (2, (.int .i64 a2)), (3, (.int .i64 a3))]) H =
(.claim (Wp (Plain.env tblC gK) (inL [2, 3, 8, 9, 10]) (.block 0 (.loop body9_0)) (fr 119 [(0, s0), (1, s1), (2, (.int .i64 a2)), (3, (.int .i64 a3)), (8, (.bool false)), (9, (.slice none 0 0)), (10, (.slice none 0 0)), (11, (.int .i64 0))]) H fun e s h' => e = .normal ∧ s = (fr 119 [(2, (.int .i64 a2)), (3, (.int .i64 a3)), (8, (.bool false)), (9, l), (10, r)]) ∧ h' = H1)
 (.claim (opA (Plain.env tblC gK) (.len (.const l)) [] H1 = some ((.int .i64 n), H1))
 (.req (preWithin 0 n) (.req true (.claim (opA (Plain.env tblC gK) (.call 24 [(.const l)]) [] H1 = some ((.agg ⟨[(.int .i64 x0), (.int .i64 x1), (.int .i64 x2), (.int .i64 x3)]⟩), H1))
 (.req true (.req true (.claim (opA (Plain.env tblC gK) (.slice 5 (.const l) none (some (.const (.int .i64 (wn a2 0 n)))) none) [] H1 = some (lb, H1))
 (.claim (opA (Plain.env tblC gK) (.call 24 [(.const lb)]) [] H1 = some ((.agg ⟨[(.int .i64 y0), (.int .i64 y1), (.int .i64 y2), (.int .i64 y3)]⟩), H1))
 (.req true (.req true (.claim (opA (Plain.env tblC gK) (.slice 5 (.const l) (some (.const (.int .i64 (wn a2 0 n)))) none none) [] H1 = some (lc, H1))
 (.claim (opA (Plain.env tblC gK) (.call 24 [(.const lc)]) [] H1 = some ((.agg ⟨[(.int .i64 z0), (.int .i64 z1), (.int .i64 z2), (.int .i64 z3)]⟩), H1))
 (.req true (.req true (.req true (.claim (opA (Plain.env tblC gK) (.store (.const (.pointer (some ⟨(H1).length, 0, none⟩))) (.const (.agg ⟨[(.int .i64 x0), (.int .i64 x1), (.int .i64 x2), (.int .i64 x3)]⟩)) 4) [] (((H1 ++ [some (Blk.mk .fix [(.int .i64 0), (.int .i64 0), (.int .i64 0), (.int .i64 0)])]) ++ [some (Blk.mk .fix [(.int .i64 0), (.int .i64 0), (.int .i64 0), (.int .i64 0)])]) ++ [some (Blk.mk .fix [(.int .i64 0), (.int .i64 0), (.int .i64 0), (.int .i64 0)])]) = some ((.tuple ⟨[]⟩), (((H1 ++ [some (Blk.mk .fix [(.int .i64 x0), (.int .i64 x1), (.int .i64 x2), (.int .i64 x3)])]) ++ [some (Blk.mk .fix [(.int .i64 0), (.int .i64 0), (.int .i64 0), (.int .i64 0)])]) ++ [some (Blk.mk .fix [(.int .i64 0), (.int .i64 0), (.int .i64 0), (.int .i64 0)])])))
 (.claim (opA (Plain.env tblC gK) (.store (.const (.pointer (some ⟨((H1 ++ [some (Blk.mk .fix [(.int .i64 0), (.int .i64 0), (.int .i64 0), (.int .i64 0)])])).length, 0, none⟩))) (.const (.agg ⟨[(.int .i64 y0), (.int .i64 y1), (.int .i64 y2), (.int .i64 y3)]⟩)) 4) [] (((H1 ++ [some (Blk.mk .fix [(.int .i64 x0), (.int .i64 x1), (.int .i64 x2), (.int .i64 x3)])]) ++ [some (Blk.mk .fix [(.int .i64 0), (.int .i64 0), (.int .i64 0), (.int .i64 0)])]) ++ [some (Blk.mk .fix [(.int .i64 0), (.int .i64 0), (.int .i64 0), (.int .i64 0)])]) = some ((.tuple ⟨[]⟩), (((H1 ++ [some (Blk.mk .fix [(.int .i64 x0), (.int .i64 x1), (.int .i64 x2), (.int .i64 x3)])]) ++ [some (Blk.mk .fix [(.int .i64 y0), (.int .i64 y1), (.int .i64 y2), (.int .i64 y3)])]) ++ [some (Blk.mk .fix [(.int .i64 0), (.int .i64 0), (.int .i64 0), (.int .i64 0)])])))
 (.claim (opA (Plain.env tblC gK) (.store (.const (.pointer (some ⟨(((H1 ++ [some (Blk.mk .fix [(.int .i64 0), (.int .i64 0), (.int .i64 0), (.int .i64 0)])]) ++ [some (Blk.mk .fix [(.int .i64 0), (.int .i64 0), (.int .i64 0), (.int .i64 0)])])).length, 0, none⟩))) (.const (.agg ⟨[(.int .i64 z0), (.int .i64 z1), (.int .i64 z2), (.int .i64 z3)]⟩)) 4) [] (((H1 ++ [some (Blk.mk .fix [(.int .i64 x0), (.int .i64 x1), (.int .i64 x2), (.int .i64 x3)])]) ++ [some (Blk.mk .fix [(.int .i64 y0), (.int .i64 y1), (.int .i64 y2), (.int .i64 y3)])]) ++ [some (Blk.mk .fix [(.int .i64 0), (.int .i64 0), (.int .i64 0), (.int .i64 0)])]) = some ((.tuple ⟨[]⟩), (((H1 ++ [some (Blk.mk .fix [(.int .i64 x0), (.int .i64 x1), (.int .i64 x2), (.int .i64 x3)])]) ++ [some (Blk.mk .fix [(.int .i64 y0), (.int .i64 y1), (.int .i64 y2), (.int .i64 y3)])]) ++ [some (Blk.mk .fix [(.int .i64 z0), (.int .i64 z1), (.int .i64 z2), (.int .i64 z3)])])))
 (.claim ((∃ h2, opA (Plain.env tblC gK) (.call 24 [(.const l)]) [] (H1 ++ [some (Blk.mk .fix [(.int .i64 0), (.int .i64 0), (.int .i64 0), (.int .i64 0)])]) = some ((.agg ⟨[(.int .i64 x0), (.int .i64 x1), (.int .i64 x2), (.int .i64 x3)]⟩), h2)) ∧ eqV (.agg ⟨[(.int .i64 x0), (.int .i64 x1), (.int .i64 x2), (.int .i64 x3)]⟩) (.agg ⟨[(.int .i64 x0), (.int .i64 x1), (.int .i64 x2), (.int .i64 x3)]⟩) = true)
 (.claim ((∃ h2, opA (Plain.env tblC gK) (.call 24 [(.const l)]) [] ((H1 ++ [some (Blk.mk .fix [(.int .i64 0), (.int .i64 0), (.int .i64 0), (.int .i64 0)])]) ++ [some (Blk.mk .fix [(.int .i64 0), (.int .i64 0), (.int .i64 0), (.int .i64 0)])]) = some ((.agg ⟨[(.int .i64 x0), (.int .i64 x1), (.int .i64 x2), (.int .i64 x3)]⟩), h2)) ∧ eqV (.agg ⟨[(.int .i64 x0), (.int .i64 x1), (.int .i64 x2), (.int .i64 x3)]⟩) (.agg ⟨[(.int .i64 x0), (.int .i64 x1), (.int .i64 x2), (.int .i64 x3)]⟩) = true)
 (.claim ((∃ h2, opA (Plain.env tblC gK) (.call 24 [(.const l)]) [] (((H1 ++ [some (Blk.mk .fix [(.int .i64 0), (.int .i64 0), (.int .i64 0), (.int .i64 0)])]) ++ [some (Blk.mk .fix [(.int .i64 0), (.int .i64 0), (.int .i64 0), (.int .i64 0)])]) ++ [some (Blk.mk .fix [(.int .i64 0), (.int .i64 0), (.int .i64 0), (.int .i64 0)])]) = some ((.agg ⟨[(.int .i64 x0), (.int .i64 x1), (.int .i64 x2), (.int .i64 x3)]⟩), h2)) ∧ eqV (.agg ⟨[(.int .i64 x0), (.int .i64 x1), (.int .i64 x2), (.int .i64 x3)]⟩) (.agg ⟨[(.int .i64 x0), (.int .i64 x1), (.int .i64 x2), (.int .i64 x3)]⟩) = true)
 (.claim ((∃ h2, opA (Plain.env tblC gK) (.call 24 [(.const lb)]) [] (H1 ++ [some (Blk.mk .fix [(.int .i64 0), (.int .i64 0), (.int .i64 0), (.int .i64 0)])]) = some ((.agg ⟨[(.int .i64 y0), (.int .i64 y1), (.int .i64 y2), (.int .i64 y3)]⟩), h2)) ∧ eqV (.agg ⟨[(.int .i64 y0), (.int .i64 y1), (.int .i64 y2), (.int .i64 y3)]⟩) (.agg ⟨[(.int .i64 y0), (.int .i64 y1), (.int .i64 y2), (.int .i64 y3)]⟩) = true)
 (.claim ((∃ h2, opA (Plain.env tblC gK) (.call 24 [(.const lb)]) [] ((H1 ++ [some (Blk.mk .fix [(.int .i64 0), (.int .i64 0), (.int .i64 0), (.int .i64 0)])]) ++ [some (Blk.mk .fix [(.int .i64 0), (.int .i64 0), (.int .i64 0), (.int .i64 0)])]) = some ((.agg ⟨[(.int .i64 y0), (.int .i64 y1), (.int .i64 y2), (.int .i64 y3)]⟩), h2)) ∧ eqV (.agg ⟨[(.int .i64 y0), (.int .i64 y1), (.int .i64 y2), (.int .i64 y3)]⟩) (.agg ⟨[(.int .i64 y0), (.int .i64 y1), (.int .i64 y2), (.int .i64 y3)]⟩) = true)
 (.claim ((∃ h2, opA (Plain.env tblC gK) (.call 24 [(.const lb)]) [] (((H1 ++ [some (Blk.mk .fix [(.int .i64 0), (.int .i64 0), (.int .i64 0), (.int .i64 0)])]) ++ [some (Blk.mk .fix [(.int .i64 0), (.int .i64 0), (.int .i64 0), (.int .i64 0)])]) ++ [some (Blk.mk .fix [(.int .i64 0), (.int .i64 0), (.int .i64 0), (.int .i64 0)])]) = some ((.agg ⟨[(.int .i64 y0), (.int .i64 y1), (.int .i64 y2), (.int .i64 y3)]⟩), h2)) ∧ eqV (.agg ⟨[(.int .i64 y0), (.int .i64 y1), (.int .i64 y2), (.int .i64 y3)]⟩) (.agg ⟨[(.int .i64 y0), (.int .i64 y1), (.int .i64 y2), (.int .i64 y3)]⟩) = true)
 (.claim ((∃ h2, opA (Plain.env tblC gK) (.call 24 [(.const lc)]) [] (H1 ++ [some (Blk.mk .fix [(.int .i64 0), (.int .i64 0), (.int .i64 0), (.int .i64 0)])]) = some ((.agg ⟨[(.int .i64 z0), (.int .i64 z1), (.int .i64 z2), (.int .i64 z3)]⟩), h2)) ∧ eqV (.agg ⟨[(.int .i64 z0), (.int .i64 z1), (.int .i64 z2), (.int .i64 z3)]⟩) (.agg ⟨[(.int .i64 z0), (.int .i64 z1), (.int .i64 z2), (.int .i64 z3)]⟩) = true)
 (.claim ((∃ h2, opA (Plain.env tblC gK) (.call 24 [(.const lc)]) [] ((H1 ++ [some (Blk.mk .fix [(.int .i64 0), (.int .i64 0), (.int .i64 0), (.int .i64 0)])]) ++ [some (Blk.mk .fix [(.int .i64 0), (.int .i64 0), (.int .i64 0), (.int .i64 0)])]) = some ((.agg ⟨[(.int .i64 z0), (.int .i64 z1), (.int .i64 z2), (.int .i64 z3)]⟩), h2)) ∧ eqV (.agg ⟨[(.int .i64 z0), (.int .i64 z1), (.int .i64 z2), (.int .i64 z3)]⟩) (.agg ⟨[(.int .i64 z0), (.int .i64 z1), (.int .i64 z2), (.int .i64 z3)]⟩) = true)
 (.claim ((∃ h2, opA (Plain.env tblC gK) (.call 24 [(.const lc)]) [] (((H1 ++ [some (Blk.mk .fix [(.int .i64 0), (.int .i64 0), (.int .i64 0), (.int .i64 0)])]) ++ [some (Blk.mk .fix [(.int .i64 0), (.int .i64 0), (.int .i64 0), (.int .i64 0)])]) ++ [some (Blk.mk .fix [(.int .i64 0), (.int .i64 0), (.int .i64 0), (.int .i64 0)])]) = some ((.agg ⟨[(.int .i64 z0), (.int .i64 z1), (.int .i64 z2), (.int .i64 z3)]⟩), h2)) ∧ eqV (.agg ⟨[(.int .i64 z0), (.int .i64 z1), (.int .i64 z2), (.int .i64 z3)]⟩) (.agg ⟨[(.int .i64 z0), (.int .i64 z1), (.int .i64 z2), (.int .i64 z3)]⟩) = true)
 (.req true (.claim (opA (Plain.env tblC gK) (.load (.const (.pointer (some ⟨(H1).length, 0, none⟩))) none) [] (((H1 ++ [some (Blk.mk .fix [(.int .i64 x0), (.int .i64 x1), (.int .i64 x2), (.int .i64 x3)])]) ++ [some (Blk.mk .fix [(.int .i64 y0), (.int .i64 y1), (.int .i64 y2), (.int .i64 y3)])]) ++ [some (Blk.mk .fix [(.int .i64 z0), (.int .i64 z1), (.int .i64 z2), (.int .i64 z3)])]) = some ((.int .i64 x0), (((H1 ++ [some (Blk.mk .fix [(.int .i64 x0), (.int .i64 x1), (.int .i64 x2), (.int .i64 x3)])]) ++ [some (Blk.mk .fix [(.int .i64 y0), (.int .i64 y1), (.int .i64 y2), (.int .i64 y3)])]) ++ [some (Blk.mk .fix [(.int .i64 z0), (.int .i64 z1), (.int .i64 z2), (.int .i64 z3)])])))
 (.claim (opA (Plain.env tblC gK) (.load (.const (.pointer (some ⟨((H1 ++ [some (Blk.mk .fix [(.int .i64 0), (.int .i64 0), (.int .i64 0), (.int .i64 0)])])).length, 0, none⟩))) none) [] (((H1 ++ [some (Blk.mk .fix [(.int .i64 x0), (.int .i64 x1), (.int .i64 x2), (.int .i64 x3)])]) ++ [some (Blk.mk .fix [(.int .i64 y0), (.int .i64 y1), (.int .i64 y2), (.int .i64 y3)])]) ++ [some (Blk.mk .fix [(.int .i64 z0), (.int .i64 z1), (.int .i64 z2), (.int .i64 z3)])]) = some ((.int .i64 y0), (((H1 ++ [some (Blk.mk .fix [(.int .i64 x0), (.int .i64 x1), (.int .i64 x2), (.int .i64 x3)])]) ++ [some (Blk.mk .fix [(.int .i64 y0), (.int .i64 y1), (.int .i64 y2), (.int .i64 y3)])]) ++ [some (Blk.mk .fix [(.int .i64 z0), (.int .i64 z1), (.int .i64 z2), (.int .i64 z3)])])))
 (.claim (opA (Plain.env tblC gK) (.load (.const (.pointer (some ⟨(((H1 ++ [some (Blk.mk .fix [(.int .i64 0), (.int .i64 0), (.int .i64 0), (.int .i64 0)])]) ++ [some (Blk.mk .fix [(.int .i64 0), (.int .i64 0), (.int .i64 0), (.int .i64 0)])])).length, 0, none⟩))) none) [] (((H1 ++ [some (Blk.mk .fix [(.int .i64 x0), (.int .i64 x1), (.int .i64 x2), (.int .i64 x3)])]) ++ [some (Blk.mk .fix [(.int .i64 y0), (.int .i64 y1), (.int .i64 y2), (.int .i64 y3)])]) ++ [some (Blk.mk .fix [(.int .i64 z0), (.int .i64 z1), (.int .i64 z2), (.int .i64 z3)])]) = some ((.int .i64 z0), (((H1 ++ [some (Blk.mk .fix [(.int .i64 x0), (.int .i64 x1), (.int .i64 x2), (.int .i64 x3)])]) ++ [some (Blk.mk .fix [(.int .i64 y0), (.int .i64 y1), (.int .i64 y2), (.int .i64 y3)])]) ++ [some (Blk.mk .fix [(.int .i64 z0), (.int .i64 z1), (.int .i64 z2), (.int .i64 z3)])])))
 (.req (!(x0 != (IntKind.wrap .i64 (y0 + z0)))) (.req (!(decide (0 ≥ a3))) (.req true (.claim (opA (Plain.env tblC gK) (.load (.const (.pointer (some ⟨(H1).length, 1, none⟩))) none) [] (((H1 ++ [some (Blk.mk .fix [(.int .i64 x0), (.int .i64 x1), (.int .i64 x2), (.int .i64 x3)])]) ++ [some (Blk.mk .fix [(.int .i64 y0), (.int .i64 y1), (.int .i64 y2), (.int .i64 y3)])]) ++ [some (Blk.mk .fix [(.int .i64 z0), (.int .i64 z1), (.int .i64 z2), (.int .i64 z3)])]) = some ((.int .i64 x1), (((H1 ++ [some (Blk.mk .fix [(.int .i64 x0), (.int .i64 x1), (.int .i64 x2), (.int .i64 x3)])]) ++ [some (Blk.mk .fix [(.int .i64 y0), (.int .i64 y1), (.int .i64 y2), (.int .i64 y3)])]) ++ [some (Blk.mk .fix [(.int .i64 z0), (.int .i64 z1), (.int .i64 z2), (.int .i64 z3)])])))
 (.claim (opA (Plain.env tblC gK) (.load (.const (.pointer (some ⟨((H1 ++ [some (Blk.mk .fix [(.int .i64 0), (.int .i64 0), (.int .i64 0), (.int .i64 0)])])).length, 1, none⟩))) none) [] (((H1 ++ [some (Blk.mk .fix [(.int .i64 x0), (.int .i64 x1), (.int .i64 x2), (.int .i64 x3)])]) ++ [some (Blk.mk .fix [(.int .i64 y0), (.int .i64 y1), (.int .i64 y2), (.int .i64 y3)])]) ++ [some (Blk.mk .fix [(.int .i64 z0), (.int .i64 z1), (.int .i64 z2), (.int .i64 z3)])]) = some ((.int .i64 y1), (((H1 ++ [some (Blk.mk .fix [(.int .i64 x0), (.int .i64 x1), (.int .i64 x2), (.int .i64 x3)])]) ++ [some (Blk.mk .fix [(.int .i64 y0), (.int .i64 y1), (.int .i64 y2), (.int .i64 y3)])]) ++ [some (Blk.mk .fix [(.int .i64 z0), (.int .i64 z1), (.int .i64 z2), (.int .i64 z3)])])))
 (.claim (opA (Plain.env tblC gK) (.load (.const (.pointer (some ⟨(((H1 ++ [some (Blk.mk .fix [(.int .i64 0), (.int .i64 0), (.int .i64 0), (.int .i64 0)])]) ++ [some (Blk.mk .fix [(.int .i64 0), (.int .i64 0), (.int .i64 0), (.int .i64 0)])])).length, 1, none⟩))) none) [] (((H1 ++ [some (Blk.mk .fix [(.int .i64 x0), (.int .i64 x1), (.int .i64 x2), (.int .i64 x3)])]) ++ [some (Blk.mk .fix [(.int .i64 y0), (.int .i64 y1), (.int .i64 y2), (.int .i64 y3)])]) ++ [some (Blk.mk .fix [(.int .i64 z0), (.int .i64 z1), (.int .i64 z2), (.int .i64 z3)])]) = some ((.int .i64 z1), (((H1 ++ [some (Blk.mk .fix [(.int .i64 x0), (.int .i64 x1), (.int .i64 x2), (.int .i64 x3)])]) ++ [some (Blk.mk .fix [(.int .i64 y0), (.int .i64 y1), (.int .i64 y2), (.int .i64 y3)])]) ++ [some (Blk.mk .fix [(.int .i64 z0), (.int .i64 z1), (.int .i64 z2), (.int .i64 z3)])])))
 (.req (!(x1 != (IntKind.wrap .i64 (y1 + z1)))) (.req (!(decide (1 ≥ a3))) (.req true (.claim (opA (Plain.env tblC gK) (.load (.const (.pointer (some ⟨(H1).length, 2, none⟩))) none) [] (((H1 ++ [some (Blk.mk .fix [(.int .i64 x0), (.int .i64 x1), (.int .i64 x2), (.int .i64 x3)])]) ++ [some (Blk.mk .fix [(.int .i64 y0), (.int .i64 y1), (.int .i64 y2), (.int .i64 y3)])]) ++ [some (Blk.mk .fix [(.int .i64 z0), (.int .i64 z1), (.int .i64 z2), (.int .i64 z3)])]) = some ((.int .i64 x2), (((H1 ++ [some (Blk.mk .fix [(.int .i64 x0), (.int .i64 x1), (.int .i64 x2), (.int .i64 x3)])]) ++ [some (Blk.mk .fix [(.int .i64 y0), (.int .i64 y1), (.int .i64 y2), (.int .i64 y3)])]) ++ [some (Blk.mk .fix [(.int .i64 z0), (.int .i64 z1), (.int .i64 z2), (.int .i64 z3)])])))
 (.claim (opA (Plain.env tblC gK) (.load (.const (.pointer (some ⟨((H1 ++ [some (Blk.mk .fix [(.int .i64 0), (.int .i64 0), (.int .i64 0), (.int .i64 0)])])).length, 2, none⟩))) none) [] (((H1 ++ [some (Blk.mk .fix [(.int .i64 x0), (.int .i64 x1), (.int .i64 x2), (.int .i64 x3)])]) ++ [some (Blk.mk .fix [(.int .i64 y0), (.int .i64 y1), (.int .i64 y2), (.int .i64 y3)])]) ++ [some (Blk.mk .fix [(.int .i64 z0), (.int .i64 z1), (.int .i64 z2), (.int .i64 z3)])]) = some ((.int .i64 y2), (((H1 ++ [some (Blk.mk .fix [(.int .i64 x0), (.int .i64 x1), (.int .i64 x2), (.int .i64 x3)])]) ++ [some (Blk.mk .fix [(.int .i64 y0), (.int .i64 y1), (.int .i64 y2), (.int .i64 y3)])]) ++ [some (Blk.mk .fix [(.int .i64 z0), (.int .i64 z1), (.int .i64 z2), (.int .i64 z3)])])))
 (.claim (opA (Plain.env tblC gK) (.load (.const (.pointer (some ⟨(((H1 ++ [some (Blk.mk .fix [(.int .i64 0), (.int .i64 0), (.int .i64 0), (.int .i64 0)])]) ++ [some (Blk.mk .fix [(.int .i64 0), (.int .i64 0), (.int .i64 0), (.int .i64 0)])])).length, 2, none⟩))) none) [] (((H1 ++ [some (Blk.mk .fix [(.int .i64 x0), (.int .i64 x1), (.int .i64 x2), (.int .i64 x3)])]) ++ [some (Blk.mk .fix [(.int .i64 y0), (.int .i64 y1), (.int .i64 y2), (.int .i64 y3)])]) ++ [some (Blk.mk .fix [(.int .i64 z0), (.int .i64 z1), (.int .i64 z2), (.int .i64 z3)])]) = some ((.int .i64 z2), (((H1 ++ [some (Blk.mk .fix [(.int .i64 x0), (.int .i64 x1), (.int .i64 x2), (.int .i64 x3)])]) ++ [some (Blk.mk .fix [(.int .i64 y0), (.int .i64 y1), (.int .i64 y2), (.int .i64 y3)])]) ++ [some (Blk.mk .fix [(.int .i64 z0), (.int .i64 z1), (.int .i64 z2), (.int .i64 z3)])])))
 (.req (!(x2 != (IntKind.wrap .i64 (y2 + z2)))) (.req (decide (2 ≥ a3)) (.claim (opA (Plain.env tblC gK) (.load (.const (.pointer (some ⟨(H1).length, 2, none⟩))) none) [] (((H1 ++ [some (Blk.mk .fix [(.int .i64 x0), (.int .i64 x1), (.int .i64 x2), (.int .i64 x3)])]) ++ [some (Blk.mk .fix [(.int .i64 y0), (.int .i64 y1), (.int .i64 y2), (.int .i64 y3)])]) ++ [some (Blk.mk .fix [(.int .i64 z0), (.int .i64 z1), (.int .i64 z2), (.int .i64 z3)])]) = some ((.int .i64 x2), (((H1 ++ [some (Blk.mk .fix [(.int .i64 x0), (.int .i64 x1), (.int .i64 x2), (.int .i64 x3)])]) ++ [some (Blk.mk .fix [(.int .i64 y0), (.int .i64 y1), (.int .i64 y2), (.int .i64 y3)])]) ++ [some (Blk.mk .fix [(.int .i64 z0), (.int .i64 z1), (.int .i64 z2), (.int .i64 z3)])])))
 (.req true (.claim (opA (Plain.env tblC gK) (.load (.const (.pointer (some ⟨(H1).length, 3, none⟩))) none) [] (((H1 ++ [some (Blk.mk .fix [(.int .i64 x0), (.int .i64 x1), (.int .i64 x2), (.int .i64 x3)])]) ++ [some (Blk.mk .fix [(.int .i64 y0), (.int .i64 y1), (.int .i64 y2), (.int .i64 y3)])]) ++ [some (Blk.mk .fix [(.int .i64 z0), (.int .i64 z1), (.int .i64 z2), (.int .i64 z3)])]) = some ((.int .i64 x3), (((H1 ++ [some (Blk.mk .fix [(.int .i64 x0), (.int .i64 x1), (.int .i64 x2), (.int .i64 x3)])]) ++ [some (Blk.mk .fix [(.int .i64 y0), (.int .i64 y1), (.int .i64 y2), (.int .i64 y3)])]) ++ [some (Blk.mk .fix [(.int .i64 z0), (.int .i64 z1), (.int .i64 z2), (.int .i64 z3)])])))
 (.claim (opA (Plain.env tblC gK) (.load (.const (.pointer (some ⟨((H1 ++ [some (Blk.mk .fix [(.int .i64 0), (.int .i64 0), (.int .i64 0), (.int .i64 0)])])).length, 3, none⟩))) none) [] (((H1 ++ [some (Blk.mk .fix [(.int .i64 x0), (.int .i64 x1), (.int .i64 x2), (.int .i64 x3)])]) ++ [some (Blk.mk .fix [(.int .i64 y0), (.int .i64 y1), (.int .i64 y2), (.int .i64 y3)])]) ++ [some (Blk.mk .fix [(.int .i64 z0), (.int .i64 z1), (.int .i64 z2), (.int .i64 z3)])]) = some ((.int .i64 y3), (((H1 ++ [some (Blk.mk .fix [(.int .i64 x0), (.int .i64 x1), (.int .i64 x2), (.int .i64 x3)])]) ++ [some (Blk.mk .fix [(.int .i64 y0), (.int .i64 y1), (.int .i64 y2), (.int .i64 y3)])]) ++ [some (Blk.mk .fix [(.int .i64 z0), (.int .i64 z1), (.int .i64 z2), (.int .i64 z3)])])))
 (.claim (opA (Plain.env tblC gK) (.load (.const (.pointer (some ⟨(((H1 ++ [some (Blk.mk .fix [(.int .i64 0), (.int .i64 0), (.int .i64 0), (.int .i64 0)])]) ++ [some (Blk.mk .fix [(.int .i64 0), (.int .i64 0), (.int .i64 0), (.int .i64 0)])])).length, 3, none⟩))) none) [] (((H1 ++ [some (Blk.mk .fix [(.int .i64 x0), (.int .i64 x1), (.int .i64 x2), (.int .i64 x3)])]) ++ [some (Blk.mk .fix [(.int .i64 y0), (.int .i64 y1), (.int .i64 y2), (.int .i64 y3)])]) ++ [some (Blk.mk .fix [(.int .i64 z0), (.int .i64 z1), (.int .i64 z2), (.int .i64 z3)])]) = some ((.int .i64 z3), (((H1 ++ [some (Blk.mk .fix [(.int .i64 x0), (.int .i64 x1), (.int .i64 x2), (.int .i64 x3)])]) ++ [some (Blk.mk .fix [(.int .i64 y0), (.int .i64 y1), (.int .i64 y2), (.int .i64 y3)])]) ++ [some (Blk.mk .fix [(.int .i64 z0), (.int .i64 z1), (.int .i64 z2), (.int .i64 z3)])])))
 (.req (!(x3 != (IntKind.wrap .i64 (y3 + z3)))) (.req (decide (3 ≥ a3)) (.claim (opA (Plain.env tblC gK) (.load (.const (.pointer (some ⟨(H1).length, 3, none⟩))) none) [] (((H1 ++ [some (Blk.mk .fix [(.int .i64 x0), (.int .i64 x1), (.int .i64 x2), (.int .i64 x3)])]) ++ [some (Blk.mk .fix [(.int .i64 y0), (.int .i64 y1), (.int .i64 y2), (.int .i64 y3)])]) ++ [some (Blk.mk .fix [(.int .i64 z0), (.int .i64 z1), (.int .i64 z2), (.int .i64 z3)])]) = some ((.int .i64 x3), (((H1 ++ [some (Blk.mk .fix [(.int .i64 x0), (.int .i64 x1), (.int .i64 x2), (.int .i64 x3)])]) ++ [some (Blk.mk .fix [(.int .i64 y0), (.int .i64 y1), (.int .i64 y2), (.int .i64 y3)])]) ++ [some (Blk.mk .fix [(.int .i64 z0), (.int .i64 z1), (.int .i64 z2), (.int .i64 z3)])])))
 (.req true (.claim (opA (Plain.env tblC gK) (.load (.const (.pointer (some ⟨(H1).length, 0, none⟩))) (some 4)) [] (((H1 ++ [some (Blk.mk .fix [(.int .i64 x0), (.int .i64 x1), (.int .i64 x2), (.int .i64 x3)])]) ++ [some (Blk.mk .fix [(.int .i64 y0), (.int .i64 y1), (.int .i64 y2), (.int .i64 y3)])]) ++ [some (Blk.mk .fix [(.int .i64 z0), (.int .i64 z1), (.int .i64 z2), (.int .i64 z3)])]) = some ((.agg ⟨[(.int .i64 x0), (.int .i64 x1), (.int .i64 x2), (.int .i64 x3)]⟩), (((H1 ++ [some (Blk.mk .fix [(.int .i64 x0), (.int .i64 x1), (.int .i64 x2), (.int .i64 x3)])]) ++ [some (Blk.mk .fix [(.int .i64 y0), (.int .i64 y1), (.int .i64 y2), (.int .i64 y3)])]) ++ [some (Blk.mk .fix [(.int .i64 z0), (.int .i64 z1), (.int .i64 z2), (.int .i64 z3)])])))
 (.claim (opA (Plain.env tblC gK) (.call 26 [(.const r)]) [] (((H1 ++ [some (Blk.mk .fix [(.int .i64 x0), (.int .i64 x1), (.int .i64 x2), (.int .i64 x3)])]) ++ [some (Blk.mk .fix [(.int .i64 y0), (.int .i64 y1), (.int .i64 y2), (.int .i64 y3)])]) ++ [some (Blk.mk .fix [(.int .i64 z0), (.int .i64 z1), (.int .i64 z2), (.int .i64 z3)])]) = some ((.agg ⟨[(.int .i64 x0), (.int .i64 x1), (.int .i64 x2), (.int .i64 x3)]⟩), (((H1 ++ [some (Blk.mk .fix [(.int .i64 x0), (.int .i64 x1), (.int .i64 x2), (.int .i64 x3)])]) ++ [some (Blk.mk .fix [(.int .i64 y0), (.int .i64 y1), (.int .i64 y2), (.int .i64 y3)])]) ++ [some (Blk.mk .fix [(.int .i64 z0), (.int .i64 z1), (.int .i64 z2), (.int .i64 z3)])])))
 (.req ((x0 == x0) && ((x1 == x1) && ((x2 == x2) && ((x3 == x3) && true)))) (.claim (opA (Plain.env tblC gK) (.load (.const (.pointer (some ⟨(H1).length, 0, none⟩))) (some 4)) [] (((H1 ++ [some (Blk.mk .fix [(.int .i64 x0), (.int .i64 x1), (.int .i64 x2), (.int .i64 x3)])]) ++ [some (Blk.mk .fix [(.int .i64 y0), (.int .i64 y1), (.int .i64 y2), (.int .i64 y3)])]) ++ [some (Blk.mk .fix [(.int .i64 z0), (.int .i64 z1), (.int .i64 z2), (.int .i64 z3)])]) = some ((.agg ⟨[(.int .i64 x0), (.int .i64 x1), (.int .i64 x2), (.int .i64 x3)]⟩), (((H1 ++ [some (Blk.mk .fix [(.int .i64 x0), (.int .i64 x1), (.int .i64 x2), (.int .i64 x3)])]) ++ [some (Blk.mk .fix [(.int .i64 y0), (.int .i64 y1), (.int .i64 y2), (.int .i64 y3)])]) ++ [some (Blk.mk .fix [(.int .i64 z0), (.int .i64 z1), (.int .i64 z2), (.int .i64 z3)])])))
 (.req true (.req ((fromB ⟨x0, x1, x2, x3⟩ a3) == (IntKind.wrap .i64 ((IntKind.wrap .i64 (0 + x2)) + x3))) (.claim (opA (Plain.env tblC gK) (.load (.const (.pointer (some ⟨(H1).length, 0, none⟩))) (some 4)) [] (((H1 ++ [some (Blk.mk .fix [(.int .i64 x0), (.int .i64 x1), (.int .i64 x2), (.int .i64 x3)])]) ++ [some (Blk.mk .fix [(.int .i64 y0), (.int .i64 y1), (.int .i64 y2), (.int .i64 y3)])]) ++ [some (Blk.mk .fix [(.int .i64 z0), (.int .i64 z1), (.int .i64 z2), (.int .i64 z3)])]) = some ((.agg ⟨[(.int .i64 x0), (.int .i64 x1), (.int .i64 x2), (.int .i64 x3)]⟩), (((H1 ++ [some (Blk.mk .fix [(.int .i64 x0), (.int .i64 x1), (.int .i64 x2), (.int .i64 x3)])]) ++ [some (Blk.mk .fix [(.int .i64 y0), (.int .i64 y1), (.int .i64 y2), (.int .i64 y3)])]) ++ [some (Blk.mk .fix [(.int .i64 z0), (.int .i64 z1), (.int .i64 z2), (.int .i64 z3)])])))
 (.req true (.claim (opA (Plain.env tblC gK) (.call 29 [(.const r)]) [] (((H1 ++ [some (Blk.mk .fix [(.int .i64 x0), (.int .i64 x1), (.int .i64 x2), (.int .i64 x3)])]) ++ [some (Blk.mk .fix [(.int .i64 y0), (.int .i64 y1), (.int .i64 y2), (.int .i64 y3)])]) ++ [some (Blk.mk .fix [(.int .i64 z0), (.int .i64 z1), (.int .i64 z2), (.int .i64 z3)])]) = some ((.int .i64 bl), (((H1 ++ [some (Blk.mk .fix [(.int .i64 x0), (.int .i64 x1), (.int .i64 x2), (.int .i64 x3)])]) ++ [some (Blk.mk .fix [(.int .i64 y0), (.int .i64 y1), (.int .i64 y2), (.int .i64 y3)])]) ++ [some (Blk.mk .fix [(.int .i64 z0), (.int .i64 z1), (.int .i64 z2), (.int .i64 z3)])])))
 (.req ((fromB ⟨x0, x1, x2, x3⟩ 0) == bl) (.claim (opA (Plain.env tblC gK) (.call 24 [(.const (.slice none 0 0))]) [] (((H1 ++ [some (Blk.mk .fix [(.int .i64 x0), (.int .i64 x1), (.int .i64 x2), (.int .i64 x3)])]) ++ [some (Blk.mk .fix [(.int .i64 y0), (.int .i64 y1), (.int .i64 y2), (.int .i64 y3)])]) ++ [some (Blk.mk .fix [(.int .i64 z0), (.int .i64 z1), (.int .i64 z2), (.int .i64 z3)])]) = some ((.agg ⟨[(.int .i64 0), (.int .i64 0), (.int .i64 0), (.int .i64 0)]⟩), (((H1 ++ [some (Blk.mk .fix [(.int .i64 x0), (.int .i64 x1), (.int .i64 x2), (.int .i64 x3)])]) ++ [some (Blk.mk .fix [(.int .i64 y0), (.int .i64 y1), (.int .i64 y2), (.int .i64 y3)])]) ++ [some (Blk.mk .fix [(.int .i64 z0), (.int .i64 z1), (.int .i64 z2), (.int .i64 z3)])])))
 (.req true (.ret (pk .ret (fr 119 [(8, (.bool true))])) (((H1 ++ [some (Blk.mk .fix [(.int .i64 x0), (.int .i64 x1), (.int .i64 x2), (.int .i64 x3)])]) ++ [some (Blk.mk .fix [(.int .i64 y0), (.int .i64 y1), (.int .i64 y2), (.int .i64 y3)])]) ++ [some (Blk.mk .fix [(.int .i64 z0), (.int .i64 z1), (.int .i64 z2), (.int .i64 z3)])]))))))))))))))))))))))))))))))))))))))))))))))))))))))))))))))))))))) := by kernel_rfl
def hn9k3 (s0 s1 l r lb lc : Value) (a2 a3 n bl : Int) (x0 x1 x2 x3 : Int) (y0 y1 y2 y3 : Int) (z0 z1 z2 z3 : Int) (H H1 : Heap) : Hj := (.lp 0 [2, 3, 8, 9, 10] (fr 119 [(2, (.int .i64 a2)), (3, (.int .i64 a3)), (8, (.bool false)), (9, l), (10, r)]) H1 (.use 58 (.int .i64 n) H1 (.crs [none, some ((.agg ⟨[(.int .i64 x0), (.int .i64 x1), (.int .i64 x2), (.int .i64 x3)]⟩), H1), none, none, some (lb, H1), some ((.agg ⟨[(.int .i64 y0), (.int .i64 y1), (.int .i64 y2), (.int .i64 y3)]⟩), H1), none, none, some (lc, H1), some ((.agg ⟨[(.int .i64 z0), (.int .i64 z1), (.int .i64 z2), (.int .i64 z3)]⟩), H1), none, none, none, some ((.tuple ⟨[]⟩), (((H1 ++ [some (Blk.mk .fix [(.int .i64 x0), (.int .i64 x1), (.int .i64 x2), (.int .i64 x3)])]) ++ [some (Blk.mk .fix [(.int .i64 0), (.int .i64 0), (.int .i64 0), (.int .i64 0)])]) ++ [some (Blk.mk .fix [(.int .i64 0), (.int .i64 0), (.int .i64 0), (.int .i64 0)])])), some ((.tuple ⟨[]⟩), (((H1 ++ [some (Blk.mk .fix [(.int .i64 x0), (.int .i64 x1), (.int .i64 x2), (.int .i64 x3)])]) ++ [some (Blk.mk .fix [(.int .i64 y0), (.int .i64 y1), (.int .i64 y2), (.int .i64 y3)])]) ++ [some (Blk.mk .fix [(.int .i64 0), (.int .i64 0), (.int .i64 0), (.int .i64 0)])])), some ((.tuple ⟨[]⟩), (((H1 ++ [some (Blk.mk .fix [(.int .i64 x0), (.int .i64 x1), (.int .i64 x2), (.int .i64 x3)])]) ++ [some (Blk.mk .fix [(.int .i64 y0), (.int .i64 y1), (.int .i64 y2), (.int .i64 y3)])]) ++ [some (Blk.mk .fix [(.int .i64 z0), (.int .i64 z1), (.int .i64 z2), (.int .i64 z3)])]))] (.con (.use 75 (.int .i64 x0) (((H1 ++ [some (Blk.mk .fix [(.int .i64 x0), (.int .i64 x1), (.int .i64 x2), (.int .i64 x3)])]) ++ [some (Blk.mk .fix [(.int .i64 y0), (.int .i64 y1), (.int .i64 y2), (.int .i64 y3)])]) ++ [some (Blk.mk .fix [(.int .i64 z0), (.int .i64 z1), (.int .i64 z2), (.int .i64 z3)])]) (.use 78 (.int .i64 y0) (((H1 ++ [some (Blk.mk .fix [(.int .i64 x0), (.int .i64 x1), (.int .i64 x2), (.int .i64 x3)])]) ++ [some (Blk.mk .fix [(.int .i64 y0), (.int .i64 y1), (.int .i64 y2), (.int .i64 y3)])]) ++ [some (Blk.mk .fix [(.int .i64 z0), (.int .i64 z1), (.int .i64 z2), (.int .i64 z3)])]) (.use 81 (.int .i64 z0) (((H1 ++ [some (Blk.mk .fix [(.int .i64 x0), (.int .i64 x1), (.int .i64 x2), (.int .i64 x3)])]) ++ [some (Blk.mk .fix [(.int .i64 y0), (.int .i64 y1), (.int .i64 y2), (.int .i64 y3)])]) ++ [some (Blk.mk .fix [(.int .i64 z0), (.int .i64 z1), (.int .i64 z2), (.int .i64 z3)])]) (.no (.no (.con (.use 75 (.int .i64 x1) (((H1 ++ [some (Blk.mk .fix [(.int .i64 x0), (.int .i64 x1), (.int .i64 x2), (.int .i64 x3)])]) ++ [some (Blk.mk .fix [(.int .i64 y0), (.int .i64 y1), (.int .i64 y2), (.int .i64 y3)])]) ++ [some (Blk.mk .fix [(.int .i64 z0), (.int .i64 z1), (.int .i64 z2), (.int .i64 z3)])]) (.use 78 (.int .i64 y1) (((H1 ++ [some (Blk.mk .fix [(.int .i64 x0), (.int .i64 x1), (.int .i64 x2), (.int .i64 x3)])]) ++ [some (Blk.mk .fix [(.int .i64 y0), (.int .i64 y1), (.int .i64 y2), (.int .i64 y3)])]) ++ [some (Blk.mk .fix [(.int .i64 z0), (.int .i64 z1), (.int .i64 z2), (.int .i64 z3)])]) (.use 81 (.int .i64 z1) (((H1 ++ [some (Blk.mk .fix [(.int .i64 x0), (.int .i64 x1), (.int .i64 x2), (.int .i64 x3)])]) ++ [some (Blk.mk .fix [(.int .i64 y0), (.int .i64 y1), (.int .i64 y2), (.int .i64 y3)])]) ++ [some (Blk.mk .fix [(.int .i64 z0), (.int .i64 z1), (.int .i64 z2), (.int .i64 z3)])]) (.no (.no (.con (.use 75 (.int .i64 x2) (((H1 ++ [some (Blk.mk .fix [(.int .i64 x0), (.int .i64 x1), (.int .i64 x2), (.int .i64 x3)])]) ++ [some (Blk.mk .fix [(.int .i64 y0), (.int .i64 y1), (.int .i64 y2), (.int .i64 y3)])]) ++ [some (Blk.mk .fix [(.int .i64 z0), (.int .i64 z1), (.int .i64 z2), (.int .i64 z3)])]) (.use 78 (.int .i64 y2) (((H1 ++ [some (Blk.mk .fix [(.int .i64 x0), (.int .i64 x1), (.int .i64 x2), (.int .i64 x3)])]) ++ [some (Blk.mk .fix [(.int .i64 y0), (.int .i64 y1), (.int .i64 y2), (.int .i64 y3)])]) ++ [some (Blk.mk .fix [(.int .i64 z0), (.int .i64 z1), (.int .i64 z2), (.int .i64 z3)])]) (.use 81 (.int .i64 z2) (((H1 ++ [some (Blk.mk .fix [(.int .i64 x0), (.int .i64 x1), (.int .i64 x2), (.int .i64 x3)])]) ++ [some (Blk.mk .fix [(.int .i64 y0), (.int .i64 y1), (.int .i64 y2), (.int .i64 y3)])]) ++ [some (Blk.mk .fix [(.int .i64 z0), (.int .i64 z1), (.int .i64 z2), (.int .i64 z3)])]) (.no (.no (.con (.use 75 (.int .i64 x3) (((H1 ++ [some (Blk.mk .fix [(.int .i64 x0), (.int .i64 x1), (.int .i64 x2), (.int .i64 x3)])]) ++ [some (Blk.mk .fix [(.int .i64 y0), (.int .i64 y1), (.int .i64 y2), (.int .i64 y3)])]) ++ [some (Blk.mk .fix [(.int .i64 z0), (.int .i64 z1), (.int .i64 z2), (.int .i64 z3)])]) (.use 78 (.int .i64 y3) (((H1 ++ [some (Blk.mk .fix [(.int .i64 x0), (.int .i64 x1), (.int .i64 x2), (.int .i64 x3)])]) ++ [some (Blk.mk .fix [(.int .i64 y0), (.int .i64 y1), (.int .i64 y2), (.int .i64 y3)])]) ++ [some (Blk.mk .fix [(.int .i64 z0), (.int .i64 z1), (.int .i64 z2), (.int .i64 z3)])]) (.use 81 (.int .i64 z3) (((H1 ++ [some (Blk.mk .fix [(.int .i64 x0), (.int .i64 x1), (.int .i64 x2), (.int .i64 x3)])]) ++ [some (Blk.mk .fix [(.int .i64 y0), (.int .i64 y1), (.int .i64 y2), (.int .i64 y3)])]) ++ [some (Blk.mk .fix [(.int .i64 z0), (.int .i64 z1), (.int .i64 z2), (.int .i64 z3)])]) (.no (.yes (.use 90 (.int .i64 x3) (((H1 ++ [some (Blk.mk .fix [(.int .i64 x0), (.int .i64 x1), (.int .i64 x2), (.int .i64 x3)])]) ++ [some (Blk.mk .fix [(.int .i64 y0), (.int .i64 y1), (.int .i64 y2), (.int .i64 y3)])]) ++ [some (Blk.mk .fix [(.int .i64 z0), (.int .i64 z1), (.int .i64 z2), (.int .i64 z3)])]) (.con (.use 93 (.agg ⟨[(.int .i64 x0), (.int .i64 x1), (.int .i64 x2), (.int .i64 x3)]⟩) (((H1 ++ [some (Blk.mk .fix [(.int .i64 x0), (.int .i64 x1), (.int .i64 x2), (.int .i64 x3)])]) ++ [some (Blk.mk .fix [(.int .i64 y0), (.int .i64 y1), (.int .i64 y2), (.int .i64 y3)])]) ++ [some (Blk.mk .fix [(.int .i64 z0), (.int .i64 z1), (.int .i64 z2), (.int .i64 z3)])]) (.use 95 (.agg ⟨[(.int .i64 x0), (.int .i64 x1), (.int .i64 x2), (.int .i64 x3)]⟩) (((H1 ++ [some (Blk.mk .fix [(.int .i64 x0), (.int .i64 x1), (.int .i64 x2), (.int .i64 x3)])]) ++ [some (Blk.mk .fix [(.int .i64 y0), (.int .i64 y1), (.int .i64 y2), (.int .i64 y3)])]) ++ [some (Blk.mk .fix [(.int .i64 z0), (.int .i64 z1), (.int .i64 z2), (.int .i64 z3)])]) (.yes (.use 98 (.agg ⟨[(.int .i64 x0), (.int .i64 x1), (.int .i64 x2), (.int .i64 x3)]⟩) (((H1 ++ [some (Blk.mk .fix [(.int .i64 x0), (.int .i64 x1), (.int .i64 x2), (.int .i64 x3)])]) ++ [some (Blk.mk .fix [(.int .i64 y0), (.int .i64 y1), (.int .i64 y2), (.int .i64 y3)])]) ++ [some (Blk.mk .fix [(.int .i64 z0), (.int .i64 z1), (.int .i64 z2), (.int .i64 z3)])]) (.con (.con (.con (.con (.con (.yes (.use 105 (.agg ⟨[(.int .i64 x0), (.int .i64 x1), (.int .i64 x2), (.int .i64 x3)]⟩) (((H1 ++ [some (Blk.mk .fix [(.int .i64 x0), (.int .i64 x1), (.int .i64 x2), (.int .i64 x3)])]) ++ [some (Blk.mk .fix [(.int .i64 y0), (.int .i64 y1), (.int .i64 y2), (.int .i64 y3)])]) ++ [some (Blk.mk .fix [(.int .i64 z0), (.int .i64 z1), (.int .i64 z2), (.int .i64 z3)])]) (.con (.con (.con (.use 108 (.int .i64 bl) (((H1 ++ [some (Blk.mk .fix [(.int .i64 x0), (.int .i64 x1), (.int .i64 x2), (.int .i64 x3)])]) ++ [some (Blk.mk .fix [(.int .i64 y0), (.int .i64 y1), (.int .i64 y2), (.int .i64 y3)])]) ++ [some (Blk.mk .fix [(.int .i64 z0), (.int .i64 z1), (.int .i64 z2), (.int .i64 z3)])]) (.con (.con (.yes (.use 112 (.agg ⟨[(.int .i64 0), (.int .i64 0), (.int .i64 0), (.int .i64 0)]⟩) (((H1 ++ [some (Blk.mk .fix [(.int .i64 x0), (.int .i64 x1), (.int .i64 x2), (.int .i64 x3)])]) ++ [some (Blk.mk .fix [(.int .i64 y0), (.int .i64 y1), (.int .i64 y2), (.int .i64 y3)])]) ++ [some (Blk.mk .fix [(.int .i64 z0), (.int .i64 z1), (.int .i64 z2), (.int .i64 z3)])]) (.con (.con (.con (.con (.con .nil)))))))))))))))))))))))))))))))))))))))))))))))))))))
theorem tree9k3 (s0 s1 l r lb lc : Value) (a2 a3 n bl : Int) (x0 x1 x2 x3 : Int) (y0 y1 y2 y3 : Int) (z0 z1 z2 z3 : Int) (H H1 : Heap) : pieceT tblC gK 200 (resLv [.tmp 8]) il9.body (hn9k3 s0 s1 l r lb lc a2 a3 n bl x0 x1 x2 x3 y0 y1 y2 y3 z0 z1 z2 z3 H H1) (fr 119 [(0, s0), (1, s1), (2, (.int .i64 a2)), (3, (.int .i64 a3))]) H =
(.claim (Wp (Plain.env tblC gK) (inL [2, 3, 8, 9, 10]) (.block 0 (.loop body9_0)) (fr 119 [(0, s0), (1, s1), (2, (.int .i64 a2)), (3, (.int .i64 a3)), (8, (.bool false)), (9, (.slice none 0 0)), (10, (.slice none 0 0)), (11, (.int .i64 0))]) H fun e s h' => e = .normal ∧ s = (fr 119 [(2, (.int .i64 a2)), (3, (.int .i64 a3)), (8, (.bool false)), (9, l), (10, r)]) ∧ h' = H1)
 (.claim (opA (Plain.env tblC gK) (.len (.const l)) [] H1 = some ((.int .i64 n), H1))
 (.req (preWithin 0 n) (.req true (.claim (opA (Plain.env tblC gK) (.call 24 [(.const l)]) [] H1 = some ((.agg ⟨[(.int .i64 x0), (.int .i64 x1), (.int .i64 x2), (.int .i64 x3)]⟩), H1))
 (.req true (.req true (.claim (opA (Plain.env tblC gK) (.slice 5 (.const l) none (some (.const (.int .i64 (wn a2 0 n)))) none) [] H1 = some (lb, H1))
 (.claim (opA (Plain.env tblC gK) (.call 24 [(.const lb)]) [] H1 = some ((.agg ⟨[(.int .i64 y0), (.int .i64 y1), (.int .i64 y2), (.int .i64 y3)]⟩), H1))
 (.req true (.req true (.claim (opA (Plain.env tblC gK) (.slice 5 (.const l) (some (.const (.int .i64 (wn a2 0 n)))) none none) [] H1 = some (lc, H1))
 (.claim (opA (Plain.env tblC gK) (.call 24 [(.const lc)]) [] H1 = some ((.agg ⟨[(.int .i64 z0), (.int .i64 z1), (.int .i64 z2), (.int .i64 z3)]⟩), H1))
 (.req true (.req true (.req true (.claim (opA (Plain.env tblC gK) (.store (.const (.pointer (some ⟨(H1).length, 0, none⟩))) (.const (.agg ⟨[(.int .i64 x0), (.int .i64 x1), (.int .i64 x2), (.int .i64 x3)]⟩)) 4) [] (((H1 ++ [some (Blk.mk .fix [(.int .i64 0), (.int .i64 0), (.int .i64 0), (.int .i64 0)])]) ++ [some (Blk.mk .fix [(.int .i64 0), (.int .i64 0), (.int .i64 0), (.int .i64 0)])]) ++ [some (Blk.mk .fix [(.int .i64 0), (.int .i64 0), (.int .i64 0), (.int .i64 0)])]) = some ((.tuple ⟨[]⟩), (((H1 ++ [some (Blk.mk .fix [(.int .i64 x0), (.int .i64 x1), (.int .i64 x2), (.int .i64 x3)])]) ++ [some (Blk.mk .fix [(.int .i64 0), (.int .i64 0), (.int .i64 0), (.int .i64 0)])]) ++ [some (Blk.mk .fix [(.int .i64 0), (.int .i64 0), (.int .i64 0), (.int .i64 0)])])))
 (.claim (opA (Plain.env tblC gK) (.store (.const (.pointer (some ⟨((H1 ++ [some (Blk.mk .fix [(.int .i64 0), (.int .i64 0), (.int .i64 0), (.int .i64 0)])])).length, 0, none⟩))) (.const (.agg ⟨[(.int .i64 y0), (.int .i64 y1), (.int .i64 y2), (.int .i64 y3)]⟩)) 4) [] (((H1 ++ [some (Blk.mk .fix [(.int .i64 x0), (.int .i64 x1), (.int .i64 x2), (.int .i64 x3)])]) ++ [some (Blk.mk .fix [(.int .i64 0), (.int .i64 0), (.int .i64 0), (.int .i64 0)])]) ++ [some (Blk.mk .fix [(.int .i64 0), (.int .i64 0), (.int .i64 0), (.int .i64 0)])]) = some ((.tuple ⟨[]⟩), (((H1 ++ [some (Blk.mk .fix [(.int .i64 x0), (.int .i64 x1), (.int .i64 x2), (.int .i64 x3)])]) ++ [some (Blk.mk .fix [(.int .i64 y0), (.int .i64 y1), (.int .i64 y2), (.int .i64 y3)])]) ++ [some (Blk.mk .fix [(.int .i64 0), (.int .i64 0), (.int .i64 0), (.int .i64 0)])])))
 (.claim (opA (Plain.env tblC gK) (.store (.const (.pointer (some ⟨(((H1 ++ [some (Blk.mk .fix [(.int .i64 0), (.int .i64 0), (.int .i64 0), (.int .i64 0)])]) ++ [some (Blk.mk .fix [(.int .i64 0), (.int .i64 0), (.int .i64 0), (.int .i64 0)])])).length, 0, none⟩))) (.const (.agg ⟨[(.int .i64 z0), (.int .i64 z1), (.int .i64 z2), (.int .i64 z3)]⟩)) 4) [] (((H1 ++ [some (Blk.mk .fix [(.int .i64 x0), (.int .i64 x1), (.int .i64 x2), (.int .i64 x3)])]) ++ [some (Blk.mk .fix [(.int .i64 y0), (.int .i64 y1), (.int .i64 y2), (.int .i64 y3)])]) ++ [some (Blk.mk .fix [(.int .i64 0), (.int .i64 0), (.int .i64 0), (.int .i64 0)])]) = some ((.tuple ⟨[]⟩), (((H1 ++ [some (Blk.mk .fix [(.int .i64 x0), (.int .i64 x1), (.int .i64 x2), (.int .i64 x3)])]) ++ [some (Blk.mk .fix [(.int .i64 y0), (.int .i64 y1), (.int .i64 y2), (.int .i64 y3)])]) ++ [some (Blk.mk .fix [(.int .i64 z0), (.int .i64 z1), (.int .i64 z2), (.int .i64 z3)])])))
 (.claim ((∃ h2, opA (Plain.env tblC gK) (.call 24 [(.const l)]) [] (H1 ++ [some (Blk.mk .fix [(.int .i64 0), (.int .i64 0), (.int .i64 0), (.int .i64 0)])]) = some ((.agg ⟨[(.int .i64 x0), (.int .i64 x1), (.int .i64 x2), (.int .i64 x3)]⟩), h2)) ∧ eqV (.agg ⟨[(.int .i64 x0), (.int .i64 x1), (.int .i64 x2), (.int .i64 x3)]⟩) (.agg ⟨[(.int .i64 x0), (.int .i64 x1), (.int .i64 x2), (.int .i64 x3)]⟩) = true)
 (.claim ((∃ h2, opA (Plain.env tblC gK) (.call 24 [(.const l)]) [] ((H1 ++ [some (Blk.mk .fix [(.int .i64 0), (.int .i64 0), (.int .i64 0), (.int .i64 0)])]) ++ [some (Blk.mk .fix [(.int .i64 0), (.int .i64 0), (.int .i64 0), (.int .i64 0)])]) = some ((.agg ⟨[(.int .i64 x0), (.int .i64 x1), (.int .i64 x2), (.int .i64 x3)]⟩), h2)) ∧ eqV (.agg ⟨[(.int .i64 x0), (.int .i64 x1), (.int .i64 x2), (.int .i64 x3)]⟩) (.agg ⟨[(.int .i64 x0), (.int .i64 x1), (.int .i64 x2), (.int .i64 x3)]⟩) = true)
 (.claim ((∃ h2, opA (Plain.env tblC gK) (.call 24 [(.const l)]) [] (((H1 ++ [some (Blk.mk .fix [(.int .i64 0), (.int .i64 0), (.int .i64 0), (.int .i64 0)])]) ++ [some (Blk.mk .fix [(.int .i64 0), (.int .i64 0), (.int .i64 0), (.int .i64 0)])]) ++ [some (Blk.mk .fix [(.int .i64 0), (.int .i64 0), (.int .i64 0), (.int .i64 0)])]) = some ((.agg ⟨[(.int .i64 x0), (.int .i64 x1), (.int .i64 x2), (.int .i64 x3)]⟩), h2)) ∧ eqV (.agg ⟨[(.int .i64 x0), (.int .i64 x1), (.int .i64 x2), (.int .i64 x3)]⟩) (.agg ⟨[(.int .i64 x0), (.int .i64 x1), (.int .i64 x2), (.int .i64 x3)]⟩) = true)
 (.claim ((∃ h2, opA (Plain.env tblC gK) (.call 24 [(.const lb)]) [] (H1 ++ [some (Blk.mk .fix [(.int .i64 0), (.int .i64 0), (.int .i64 0), (.int .i64 0)])]) = some ((.agg ⟨[(.int .i64 y0), (.int .i64 y1), (.int .i64 y2), (.int .i64 y3)]⟩), h2)) ∧ eqV (.agg ⟨[(.int .i64 y0), (.int .i64 y1), (.int .i64 y2), (.int .i64 y3)]⟩) (.agg ⟨[(.int .i64 y0), (.int .i64 y1), (.int .i64 y2), (.int .i64 y3)]⟩) = true)
 (.claim ((∃ h2, opA (Plain.env tblC gK) (.call 24 [(.const lb)]) [] ((H1 ++ [some (Blk.mk .fix [(.int .i64 0), (.int .i64 0), (.int .i64 0), (.int .i64 0)])]) ++ [some (Blk.mk .fix [(.int .i64 0), (.int .i64 0), (.int .i64 0), (.int .i64 0)])]) = some ((.agg ⟨[(.int .i64 y0), (.int .i64 y1), (.int .i64 y2), (.int .i64 y3)]⟩), h2)) ∧ eqV (.agg ⟨[(.int .i64 y0), (.int .i64 y1), (.int .i64 y2), (.int .i64 y3)]⟩) (.agg ⟨[(.int .i64 y0), (.int .i64 y1), (.int .i64 y2), (.int .i64 y3)]⟩) = true)
 (.claim ((∃ h2, opA (Plain.env tblC gK) (.call 24 [(.const lb)]) [] (((H1 ++ [some (Blk.mk .fix [(.int .i64 0), (.int .i64 0), (.int .i64 0), (.int .i64 0)])]) ++ [some (Blk.mk .fix [(.int .i64 0), (.int .i64 0), (.int .i64 0), (.int .i64 0)])]) ++ [some (Blk.mk .fix [(.int .i64 0), (.int .i64 0), (.int .i64 0), (.int .i64 0)])]) = some ((.agg ⟨[(.int .i64 y0), (.int .i64 y1), (.int .i64 y2), (.int .i64 y3)]⟩), h2)) ∧ eqV (.agg ⟨[(.int .i64 y0), (.int .i64 y1), (.int .i64 y2), (.int .i64 y3)]⟩) (.agg ⟨[(.int .i64 y0), (.int .i64 y1), (.int .i64 y2), (.int .i64 y3)]⟩) = true)
 (.claim ((∃ h2, opA (Plain.env tblC gK) (.call 24 [(.const lc)]) [] (H1 ++ [some (Blk.mk .fix [(.int .i64 0), (.int .i64 0), (.int .i64 0), (.int .i64 0)])]) = some ((.agg ⟨[(.int .i64 z0), (.int .i64 z1), (.int .i64 z2), (.int .i64 z3)]⟩), h2)) ∧ eqV (.agg ⟨[(.int .i64 z0), (.int .i64 z1), (.int .i64 z2), (.int .i64 z3)]⟩) (.agg ⟨[(.int .i64 z0), (.int .i64 z1), (.int .i64 z2), (.int .i64 z3)]⟩) = true)
 (.claim ((∃ h2, opA (Plain.env tblC gK) (.call 24 [(.const lc)]) [] ((H1 ++ [some (Blk.mk .fix [(.int .i64 0), (.int .i64 0), (.int .i64 0), (.int .i64 0)])]) ++ [some (Blk.mk .fix [(.int .i64 0), (.int .i64 0), (.int .i64 0), (.int .i64 0)])]) = some ((.agg ⟨[(.int .i64 z0), (.int .i64 z1), (.int .i64 z2), (.int .i64 z3)]⟩), h2)) ∧ eqV (.agg ⟨[(.int .i64 z0), (.int .i64 z1), (.int .i64 z2), (.int .i64 z3)]⟩) (.agg ⟨[(.int .i64 z0), (.int .i64 z1), (.int .i64 z2), (.int .i64 z3)]⟩) = true)
 (.claim ((∃ h2, opA (Plain.env tblC gK) (.call 24 [(.const lc)]) [] (((H1 ++ [some (Blk.mk .fix [(.int .i64 0), (.int .i64 0), (.int .i64 0), (.int .i64 0)])]) ++ [some (Blk.mk .fix [(.int .i64 0), (.int .i64 0), (.int .i64 0), (.int .i64 0)])]) ++ [some (Blk.mk .fix [(.int .i64 0), (.int .i64 0), (.int .i64 0), (.int .i64 0)])]) = some ((.agg ⟨[(.int .i64 z0), (.int .i64 z1), (.int .i64 z2), (.int .i64 z3)]⟩), h2)) ∧ eqV (.agg ⟨[(.int .i64 z0), (.int .i64 z1), (.int .i64 z2), (.int .i64 z3)]⟩) (.agg ⟨[(.int .i64 z0), (.int .i64 z1), (.int .i64 z2), (.int .i64 z3)]⟩) = true)
 (.req true (.claim (opA (Plain.env tblC gK) (.load (.const (.pointer (some ⟨(H1).length, 0, none⟩))) none) [] (((H1 ++ [some (Blk.mk .fix [(.int .i64 x0), (.int .i64 x1), (.int .i64 x2), (.int .i64 x3)])]) ++ [some (Blk.mk .fix [(.int .i64 y0), (.int .i64 y1), (.int .i64 y2), (.int .i64 y3)])]) ++ [some (Blk.mk .fix [(.int .i64 z0), (.int .i64 z1), (.int .i64 z2), (.int .i64 z3)])]) = some ((.int .i64 x0), (((H1 ++ [some (Blk.mk .fix [(.int .i64 x0), (.int .i64 x1), (.int .i64 x2), (.int .i64 x3)])]) ++ [some (Blk.mk .fix [(.int .i64 y0), (.int .i64 y1), (.int .i64 y2), (.int .i64 y3)])]) ++ [some (Blk.mk .fix [(.int .i64 z0), (.int .i64 z1), (.int .i64 z2), (.int .i64 z3)])])))
 (.claim (opA (Plain.env tblC gK) (.load (.const (.pointer (some ⟨((H1 ++ [some (Blk.mk .fix [(.int .i64 0), (.int .i64 0), (.int .i64 0), (.int .i64 0)])])).length, 0, none⟩))) none) [] (((H1 ++ [some (Blk.mk .fix [(.int .i64 x0), (.int .i64 x1), (.int .i64 x2), (.int .i64 x3)])]) ++ [some (Blk.mk .fix [(.int .i64 y0), (.int .i64 y1), (.int .i64 y2), (.int .i64 y3)])]) ++ [some (Blk.mk .fix [(.int .i64 z0), (.int .i64 z1), (.int .i64 z2), (.int .i64 z3)])]) = some ((.int .i64 y0), (((H1 ++ [some (Blk.mk .fix [(.int .i64 x0), (.int .i64 x1), (.int .i64 x2), (.int .i64 x3)])]) ++ [some (Blk.mk .fix [(.int .i64 y0), (.int .i64 y1), (.int .i64 y2), (.int .i64 y3)])]) ++ [some (Blk.mk .fix [(.int .i64 z0), (.int .i64 z1), (.int .i64 z2), (.int .i64 z3)])])))
 (.claim (opA (Plain.env tblC gK) (.load (.const (.pointer (some ⟨(((H1 ++ [some (Blk.mk .fix [(.int .i64 0), (.int .i64 0), (.int .i64 0), (.int .i64 0)])]) ++ [some (Blk.mk .fix [(.int .i64 0), (.int .i64 0), (.int .i64 0), (.int .i64 0)])])).length, 0, none⟩))) none) [] (((H1 ++ [some (Blk.mk .fix [(.int .i64 x0), (.int .i64 x1), (.int .i64 x2), (.int .i64 x3)])]) ++ [some (Blk.mk .fix [(.int .i64 y0), (.int .i64 y1), (.int .i64 y2), (.int .i64 y3)])]) ++ [some (Blk.mk .fix [(.int .i64 z0), (.int .i64 z1), (.int .i64 z2), (.int .i64 z3)])]) = some ((.int .i64 z0), (((H1 ++ [some (Blk.mk .fix [(.int .i64 x0), (.int .i64 x1), (.int .i64 x2), (.int .i64 x3)])]) ++ [some (Blk.mk .fix [(.int .i64 y0), (.int .i64 y1), (.int .i64 y2), (.int .i64 y3)])]) ++ [some (Blk.mk .fix [(.int .i64 z0), (.int .i64 z1), (.int .i64 z2), (.int .i64 z3)])])))
 (.req (!(x0 != (IntKind.wrap .i64 (y0 + z0)))) (.req (!(decide (0 ≥ a3))) (.req true (.claim (opA (Plain.env tblC gK) (.load (.const (.pointer (some ⟨(H1).length, 1, none⟩))) none) [] (((H1 ++ [some (Blk.mk .fix [(.int .i64 x0), (.int .i64 x1), (.int .i64 x2), (.int .i64 x3)])]) ++ [some (Blk.mk .fix [(.int .i64 y0), (.int .i64 y1), (.int .i64 y2), (.int .i64 y3)])]) ++ [some (Blk.mk .fix [(.int .i64 z0), (.int .i64 z1), (.int .i64 z2), (.int .i64 z3)])]) = some ((.int .i64 x1), (((H1 ++ [some (Blk.mk .fix [(.int .i64 x0), (.int .i64 x1), (.int .i64 x2), (.int .i64 x3)])]) ++ [some (Blk.mk .fix [(.int .i64 y0), (.int .i64 y1), (.int .i64 y2), (.int .i64 y3)])]) ++ [some (Blk.mk .fix [(.int .i64 z0), (.int .i64 z1), (.int .i64 z2), (.int .i64 z3)])])))
 (.claim (opA (Plain.env tblC gK) (.load (.const (.pointer (some ⟨((H1 ++ [some (Blk.mk .fix [(.int .i64 0), (.int .i64 0), (.int .i64 0), (.int .i64 0)])])).length, 1, none⟩))) none) [] (((H1 ++ [some (Blk.mk .fix [(.int .i64 x0), (.int .i64 x1), (.int .i64 x2), (.int .i64 x3)])]) ++ [some (Blk.mk .fix [(.int .i64 y0), (.int .i64 y1), (.int .i64 y2), (.int .i64 y3)])]) ++ [some (Blk.mk .fix [(.int .i64 z0), (.int .i64 z1), (.int .i64 z2), (.int .i64 z3)])]) = some ((.int .i64 y1), (((H1 ++ [some (Blk.mk .fix [(.int .i64 x0), (.int .i64 x1), (.int .i64 x2), (.int .i64 x3)])]) ++ [some (Blk.mk .fix [(.int .i64 y0), (.int .i64 y1), (.int .i64 y2), (.int .i64 y3)])]) ++ [some (Blk.mk .fix [(.int .i64 z0), (.int .i64 z1), (.int .i64 z2), (.int .i64 z3)])])))
 (.claim (opA (Plain.env tblC gK) (.load (.const (.pointer (some ⟨(((H1 ++ [some (Blk.mk .fix [(.int .i64 0), (.int .i64 0), (.int .i64 0), (.int .i64 0)])]) ++ [some (Blk.mk .fix [(.int .i64 0), (.int .i64 0), (.int .i64 0), (.int .i64 0)])])).length, 1, none⟩))) none) [] (((H1 ++ [some (Blk.mk .fix [(.int .i64 x0), (.int .i64 x1), (.int .i64 x2), (.int .i64 x3)])]) ++ [some (Blk.mk .fix [(.int .i64 y0), (.int .i64 y1), (.int .i64 y2), (.int .i64 y3)])]) ++ [some (Blk.mk .fix [(.int .i64 z0), (.int .i64 z1), (.int .i64 z2), (.int .i64 z3)])]) = some ((.int .i64 z1), (((H1 ++ [some (Blk.mk .fix [(.int .i64 x0), (.int .i64 x1), (.int .i64 x2), (.int .i64 x3)])]) ++ [some (Blk.mk .fix [(.int .i64 y0), (.int .i64 y1), (.int .i64 y2), (.int .i64 y3)])]) ++ [some (Blk.mk .fix [(.int .i64 z0), (.int .i64 z1), (.int .i64 z2), (.int .i64 z3)])])))
 (.req (!(x1 != (IntKind.wrap .i64 (y1 + z1)))) (.req (!(decide (1 ≥ a3))) (.req true (.claim (opA (Plain.env tblC gK) (.load (.const (.pointer (some ⟨(H1).length, 2, none⟩))) none) [] (((H1 ++ [some (Blk.mk .fix [(.int .i64 x0), (.int .i64 x1), (.int .i64 x2), (.int .i64 x3)])]) ++ [some (Blk.mk .fix [(.int .i64 y0), (.int .i64 y1), (.int .i64 y2), (.int .i64 y3)])]) ++ [some (Blk.mk .fix [(.int .i64 z0), (.int .i64 z1), (.int .i64 z2), (.int .i64 z3)])]) = some ((.int .i64 x2), (((H1 ++ [some (Blk.mk .fix [(.int .i64 x0), (.int .i64 x1), (.int .i64 x2), (.int .i64 x3)])]) ++ [some (Blk.mk .fix [(.int .i64 y0), (.int .i64 y1), (.int .i64 y2), (.int .i64 y3)])]) ++ [some (Blk.mk .fix [(.int .i64 z0), (.int .i64 z1), (.int .i64 z2), (.int .i64 z3)])])))
 (.claim (opA (Plain.env tblC gK) (.load (.const (.pointer (some ⟨((H1 ++ [some (Blk.mk .fix [(.int .i64 0), (.int .i64 0), (.int .i64 0), (.int .i64 0)])])).length, 2, none⟩))) none) [] (((H1 ++ [some (Blk.mk .fix [(.int .i64 x0), (.int .i64 x1), (.int .i64 x2), (.int .i64 x3)])]) ++ [some (Blk.mk .fix [(.int .i64 y0), (.int .i64 y1), (.int .i64 y2), (.int .i64 y3)])]) ++ [some (Blk.mk .fix [(.int .i64 z0), (.int .i64 z1), (.int .i64 z2), (.int .i64 z3)])]) = some ((.int .i64 y2), (((H1 ++ [some (Blk.mk .fix [(.int .i64 x0), (.int .i64 x1), (.int .i64 x2), (.int .i64 x3)])]) ++ [some (Blk.mk .fix [(.int .i64 y0), (.int .i64 y1), (.int .i64 y2), (.int .i64 y3)])]) ++ [some (Blk.mk .fix [(.int .i64 z0), (.int .i64 z1), (.int .i64 z2), (.int .i64 z3)])])))
 (.claim (opA (Plain.env tblC gK) (.load (.const (.pointer (some ⟨(((H1 ++ [some (Blk.mk .fix [(.int .i64 0), (.int .i64 0), (.int .i64 0), (.int .i64 0)])]) ++ [some (Blk.mk .fix [(.int .i64 0), (.int .i64 0), (.int .i64 0), (.int .i64 0)])])).length, 2, none⟩))) none) [] (((H1 ++ [some (Blk.mk .fix [(.int .i64 x0), (.int .i64 x1), (.int .i64 x2), (.int .i64 x3)])]) ++ [some (Blk.mk .fix [(.int .i64 y0), (.int .i64 y1), (.int .i64 y2), (.int .i64 y3)])]) ++ [some (Blk.mk .fix [(.int .i64 z0), (.int .i64 z1), (.int .i64 z2), (.int .i64 z3)])]) = some ((.int .i64 z2), (((H1 ++ [some (Blk.mk .fix [(.int .i64 x0), (.int .i64 x1), (.int .i64 x2), (.int .i64 x3)])]) ++ [some (Blk.mk .fix [(.int .i64 y0), (.int .i64 y1), (.int .i64 y2), (.int .i64 y3)])]) ++ [some (Blk.mk .fix [(.int .i64 z0), (.int .i64 z1), (.int .i64 z2), (.int .i64 z3)])])))
 (.req (!(x2 != (IntKind.wrap .i64 (y2 + z2)))) (.req (!(decide (2 ≥ a3))) (.req true (.claim (opA (Plain.env tblC gK) (.load (.const (.pointer (some ⟨(H1).length, 3, none⟩))) none) [] (((H1 ++ [some (Blk.mk .fix [(.int .i64 x0), (.int .i64 x1), (.int .i64 x2), (.int .i64 x3)])]) ++ [some (Blk.mk .fix [(.int .i64 y0), (.int .i64 y1), (.int .i64 y2), (.int .i64 y3)])]) ++ [some (Blk.mk .fix [(.int .i64 z0), (.int .i64 z1), (.int .i64 z2), (.int .i64 z3)])]) = some ((.int .i64 x3), (((H1 ++ [some (Blk.mk .fix [(.int .i64 x0), (.int .i64 x1), (.int .i64 x2), (.int .i64 x3)])]) ++ [some (Blk.mk .fix [(.int .i64 y0), (.int .i64 y1), (.int .i64 y2), (.int .i64 y3)])]) ++ [some (Blk.mk .fix [(.int .i64 z0), (.int .i64 z1), (.int .i64 z2), (.int .i64 z3)])])))
 (.claim (opA (Plain.env tblC gK) (.load (.const (.pointer (some ⟨((H1 ++ [some (Blk.mk .fix [(.int .i64 0), (.int .i64 0), (.int .i64 0), (.int .i64 0)])])).length, 3, none⟩))) none) [] (((H1 ++ [some (Blk.mk .fix [(.int .i64 x0), (.int .i64 x1), (.int .i64 x2), (.int .i64 x3)])]) ++ [some (Blk.mk .fix [(.int .i64 y0), (.int .i64 y1), (.int .i64 y2), (.int .i64 y3)])]) ++ [some (Blk.mk .fix [(.int .i64 z0), (.int .i64 z1), (.int .i64 z2), (.int .i64 z3)])]) = some ((.int .i64 y3), (((H1 ++ [some (Blk.mk .fix [(.int .i64 x0), (.int .i64 x1), (.int .i64 x2), (.int .i64 x3)])]) ++ [some (Blk.mk .fix [(.int .i64 y0), (.int .i64 y1), (.int .i64 y2), (.int .i64 y3)])]) ++ [some (Blk.mk .fix [(.int .i64 z0), (.int .i64 z1), (.int .i64 z2), (.int .i64 z3)])])))
 (.claim (opA (Plain.env tblC gK) (.load (.const (.pointer (some ⟨(((H1 ++ [some (Blk.mk .fix [(.int .i64 0), (.int .i64 0), (.int .i64 0), (.int .i64 0)])]) ++ [some (Blk.mk .fix [(.int .i64 0), (.int .i64 0), (.int .i64 0), (.int .i64 0)])])).length, 3, none⟩))) none) [] (((H1 ++ [some (Blk.mk .fix [(.int .i64 x0), (.int .i64 x1), (.int .i64 x2), (.int .i64 x3)])]) ++ [some (Blk.mk .fix [(.int .i64 y0), (.int .i64 y1), (.int .i64 y2), (.int .i64 y3)])]) ++ [some (Blk.mk .fix [(.int .i64 z0), (.int .i64 z1), (.int .i64 z2), (.int .i64 z3)])]) = some ((.int .i64 z3), (((H1 ++ [some (Blk.mk .fix [(.int .i64 x0), (.int .i64 x1), (.int .i64 x2), (.int .i64 x3)])]) ++ [some (Blk.mk .fix [(.int .i64 y0), (.int .i64 y1), (.int .i64 y2), (.int .i64 y3)])]) ++ [some (Blk.mk .fix [(.int .i64 z0), (.int .i64 z1), (.int .i64 z2), (.int .i64 z3)])])))
 (.req (!(x3 != (IntKind.wrap .i64 (y3 + z3)))) (.req (decide (3 ≥ a3)) (.claim (opA (Plain.env tblC gK) (.load (.const (.pointer (some ⟨(H1).length, 3, none⟩))) none) [] (((H1 ++ [some (Blk.mk .fix [(.int .i64 x0), (.int .i64 x1), (.int .i64 x2), (.int .i64 x3)])]) ++ [some (Blk.mk .fix [(.int .i64 y0), (.int .i64 y1), (.int .i64 y2), (.int .i64 y3)])]) ++ [some (Blk.mk .fix [(.int .i64 z0), (.int .i64 z1), (.int .i64 z2), (.int .i64 z3)])]) = some ((.int .i64 x3), (((H1 ++ [some (Blk.mk .fix [(.int .i64 x0), (.int .i64 x1), (.int .i64 x2), (.int .i64 x3)])]) ++ [some (Blk.mk .fix [(.int .i64 y0), (.int .i64 y1), (.int .i64 y2), (.int .i64 y3)])]) ++ [some (Blk.mk .fix [(.int .i64 z0), (.int .i64 z1), (.int .i64 z2), (.int .i64 z3)])])))
 (.req true (.claim (opA (Plain.env tblC gK) (.load (.const (.pointer (some ⟨(H1).length, 0, none⟩))) (some 4)) [] (((H1 ++ [some (Blk.mk .fix [(.int .i64 x0), (.int .i64 x1), (.int .i64 x2), (.int .i64 x3)])]) ++ [some (Blk.mk .fix [(.int .i64 y0), (.int .i64 y1), (.int .i64 y2), (.int .i64 y3)])]) ++ [some (Blk.mk .fix [(.int .i64 z0), (.int .i64 z1), (.int .i64 z2), (.int .i64 z3)])]) = some ((.agg ⟨[(.int .i64 x0), (.int .i64 x1), (.int .i64 x2), (.int .i64 x3)]⟩), (((H1 ++ [some (Blk.mk .fix [(.int .i64 x0), (.int .i64 x1), (.int .i64 x2), (.int .i64 x3)])]) ++ [some (Blk.mk .fix [(.int .i64 y0), (.int .i64 y1), (.int .i64 y2), (.int .i64 y3)])]) ++ [some (Blk.mk .fix [(.int .i64 z0), (.int .i64 z1), (.int .i64 z2), (.int .i64 z3)])])))
 (.claim (opA (Plain.env tblC gK) (.call 26 [(.const r)]) [] (((H1 ++ [some (Blk.mk .fix [(.int .i64 x0), (.int .i64 x1), (.int .i64 x2), (.int .i64 x3)])]) ++ [some (Blk.mk .fix [(.int .i64 y0), (.int .i64 y1), (.int .i64 y2), (.int .i64 y3)])]) ++ [some (Blk.mk .fix [(.int .i64 z0), (.int .i64 z1), (.int .i64 z2), (.int .i64 z3)])]) = some ((.agg ⟨[(.int .i64 x0), (.int .i64 x1), (.int .i64 x2), (.int .i64 x3)]⟩), (((H1 ++ [some (Blk.mk .fix [(.int .i64 x0), (.int .i64 x1), (.int .i64 x2), (.int .i64 x3)])]) ++ [some (Blk.mk .fix [(.int .i64 y0), (.int .i64 y1), (.int .i64 y2), (.int .i64 y3)])]) ++ [some (Blk.mk .fix [(.int .i64 z0), (.int .i64 z1), (.int .i64 z2), (.int .i64 z3)])])))
 (.req ((x0 == x0) && ((x1 == x1) && ((x2 == x2) && ((x3 == x3) && true)))) (.claim (opA (Plain.env tblC gK) (.load (.const (.pointer (some ⟨(H1).length, 0, none⟩))) (some 4)) [] (((H1 ++ [some (Blk.mk .fix [(.int .i64 x0), (.int .i64 x1), (.int .i64 x2), (.int .i64 x3)])]) ++ [some (Blk.mk .fix [(.int .i64 y0), (.int .i64 y1), (.int .i64 y2), (.int .i64 y3)])]) ++ [some (Blk.mk .fix [(.int .i64 z0), (.int .i64 z1), (.int .i64 z2), (.int .i64 z3)])]) = some ((.agg ⟨[(.int .i64 x0), (.int .i64 x1), (.int .i64 x2), (.int .i64 x3)]⟩), (((H1 ++ [some (Blk.mk .fix [(.int .i64 x0), (.int .i64 x1), (.int .i64 x2), (.int .i64 x3)])]) ++ [some (Blk.mk .fix [(.int .i64 y0), (.int .i64 y1), (.int .i64 y2), (.int .i64 y3)])]) ++ [some (Blk.mk .fix [(.int .i64 z0), (.int .i64 z1), (.int .i64 z2), (.int .i64 z3)])])))
 (.req true (.req ((fromB ⟨x0, x1, x2, x3⟩ a3) == (IntKind.wrap .i64 (0 + x3))) (.claim (opA (Plain.env tblC gK) (.load (.const (.pointer (some ⟨(H1).length, 0, none⟩))) (some 4)) [] (((H1 ++ [some (Blk.mk .fix [(.int .i64 x0), (.int .i64 x1), (.int .i64 x2), (.int .i64 x3)])]) ++ [some (Blk.mk .fix [(.int .i64 y0), (.int .i64 y1), (.int .i64 y2), (.int .i64 y3)])]) ++ [some (Blk.mk .fix [(.int .i64 z0), (.int .i64 z1), (.int .i64 z2), (.int .i64 z3)])]) = some ((.agg ⟨[(.int .i64 x0), (.int .i64 x1), (.int .i64 x2), (.int .i64 x3)]⟩), (((H1 ++ [some (Blk.mk .fix [(.int .i64 x0), (.int .i64 x1), (.int .i64 x2), (.int .i64 x3)])]) ++ [some (Blk.mk .fix [(.int .i64 y0), (.int .i64 y1), (.int .i64 y2), (.int .i64 y3)])]) ++ [some (Blk.mk .fix [(.int .i64 z0), (.int .i64 z1), (.int .i64 z2), (.int .i64 z3)])])))
 (.req true (.claim (opA (Plain.env tblC gK) (.call 29 [(.const r)]) [] (((H1 ++ [some (Blk.mk .fix [(.int .i64 x0), (.int .i64 x1), (.int .i64 x2), (.int .i64 x3)])]) ++ [some (Blk.mk .fix [(.int .i64 y0), (.int .i64 y1), (.int .i64 y2), (.int .i64 y3)])]) ++ [some (Blk.mk .fix [(.int .i64 z0), (.int .i64 z1), (.int .i64 z2), (.int .i64 z3)])]) = some ((.int .i64 bl), (((H1 ++ [some (Blk.mk .fix [(.int .i64 x0), (.int .i64 x1), (.int .i64 x2), (.int .i64 x3)])]) ++ [some (Blk.mk .fix [(.int .i64 y0), (.int .i64 y1), (.int .i64 y2), (.int .i64 y3)])]) ++ [some (Blk.mk .fix [(.int .i64 z0), (.int .i64 z1), (.int .i64 z2), (.int .i64 z3)])])))
 (.req ((fromB ⟨x0, x1, x2, x3⟩ 0) == bl) (.claim (opA (Plain.env tblC gK) (.call 24 [(.const (.slice none 0 0))]) [] (((H1 ++ [some (Blk.mk .fix [(.int .i64 x0), (.int .i64 x1), (.int .i64 x2), (.int .i64 x3)])]) ++ [some (Blk.mk .fix [(.int .i64 y0), (.int .i64 y1), (.int .i64 y2), (.int .i64 y3)])]) ++ [some (Blk.mk .fix [(.int .i64 z0), (.int .i64 z1), (.int .i64 z2), (.int .i64 z3)])]) = some ((.agg ⟨[(.int .i64 0), (.int .i64 0), (.int .i64 0), (.int .i64 0)]⟩), (((H1 ++ [some (Blk.mk .fix [(.int .i64 x0), (.int .i64 x1), (.int .i64 x2), (.int .i64 x3)])]) ++ [some (Blk.mk .fix [(.int .i64 y0), (.int .i64 y1), (.int .i64 y2), (.int .i64 y3)])]) ++ [some (Blk.mk .fix [(.int .i64 z0), (.int .i64 z1), (.int .i64 z2), (.int .i64 z3)])])))
 (.req true (.ret (pk .ret (fr 119 [(8, (.bool true))])) (((H1 ++ [some (Blk.mk .fix [(.int .i64 x0), (.int .i64 x1), (.int .i64 x2), (.int .i64 x3)])]) ++ [some (Blk.mk .fix [(.int .i64 y0), (.int .i64 y1), (.int .i64 y2), (.int .i64 y3)])]) ++ [some (Blk.mk .fix [(.int .i64 z0), (.int .i64 z1), (.int .i64 z2), (.int .i64 z3)])])))))))))))))))))))))))))))))))))))))))))))))))))))))))))))))))))))) := by kernel_rfl
def hn9k4 (s0 s1 l r lb lc : Value) (a2 a3 n bl : Int) (x0 x1 x2 x3 : Int) (y0 y1 y2 y3 : Int) (z0 z1 z2 z3 : Int) (H H1 : Heap) : Hj := (.lp 0 [2, 3, 8, 9, 10] (fr 119 [(2, (.int .i64 a2)), (3, (.int .i64 a3)), (8, (.bool false)), (9, l), (10, r)]) H1 (.use 58 (.int .i64 n) H1 (.crs [none, some ((.agg ⟨[(.int .i64 x0), (.int .i64 x1), (.int .i64 x2), (.int .i64 x3)]⟩), H1), none, none, some (lb, H1), some ((.agg ⟨[(.int .i64 y0), (.int .i64 y1), (.int .i64 y2), (.int .i64 y3)]⟩), H1), none, none, some (lc, H1), some ((.agg ⟨[(.int .i64 z0), (.int .i64 z1), (.int .i64 z2), (.int .i64 z3)]⟩), H1), none, none, none, some ((.tuple ⟨[]⟩), (((H1 ++ [some (Blk.mk .fix [(.int .i64 x0), (.int .i64 x1), (.int .i64 x2), (.int .i64 x3)])]) ++ [some (Blk.mk .fix [(.int .i64 0), (.int .i64 0), (.int .i64 0), (.int .i64 0)])]) ++ [some (Blk.mk .fix [(.int .i64 0), (.int .i64 0), (.int .i64 0), (.int .i64 0)])])), some ((.tuple ⟨[]⟩), (((H1 ++ [some (Blk.mk .fix [(.int .i64 x0), (.int .i64 x1), (.int .i64 x2), (.int .i64 x3)])]) ++ [some (Blk.mk .fix [(.int .i64 y0), (.int .i64 y1), (.int .i64 y2), (.int .i64 y3)])]) ++ [some (Blk.mk .fix [(.int .i64 0), (.int .i64 0), (.int .i64 0), (.int .i64 0)])])), some ((.tuple ⟨[]⟩), (((H1 ++ [some (Blk.mk .fix [(.int .i64 x0), (.int .i64 x1), (.int .i64 x2), (.int .i64 x3)])]) ++ [some (Blk.mk .fix [(.int .i64 y0), (.int .i64 y1), (.int .i64 y2), (.int .i64 y3)])]) ++ [some (Blk.mk .fix [(.int .i64 z0), (.int .i64 z1), (.int .i64 z2), (.int .i64 z3)])]))] (.con (.use 75 (.int .i64 x0) (((H1 ++ [some (Blk.mk .fix [(.int .i64 x0), (.int .i64 x1), (.int .i64 x2), (.int .i64 x3)])]) ++ [some (Blk.mk .fix [(.int .i64 y0), (.int .i64 y1), (.int .i64 y2), (.int .i64 y3)])]) ++ [some (Blk.mk .fix [(.int .i64 z0), (.int .i64 z1), (.int .i64 z2), (.int .i64 z3)])]) (.use 78 (.int .i64 y0) (((H1 ++ [some (Blk.mk .fix [(.int .i64 x0), (.int .i64 x1), (.int .i64 x2), (.int .i64 x3)])]) ++ [some (Blk.mk .fix [(.int .i64 y0), (.int .i64 y1), (.int .i64 y2), (.int .i64 y3)])]) ++ [some (Blk.mk .fix [(.int .i64 z0), (.int .i64 z1), (.int .i64 z2), (.int .i64 z3)])]) (.use 81 (.int .i64 z0) (((H1 ++ [some (Blk.mk .fix [(.int .i64 x0), (.int .i64 x1), (.int .i64 x2), (.int .i64 x3)])]) ++ [some (Blk.mk .fix [(.int .i64 y0), (.int .i64 y1), (.int .i64 y2), (.int .i64 y3)])]) ++ [some (Blk.mk .fix [(.int .i64 z0), (.int .i64 z1), (.int .i64 z2), (.int .i64 z3)])]) (.no (.no (.con (.use 75 (.int .i64 x1) (((H1 ++ [some (Blk.mk .fix [(.int .i64 x0), (.int .i64 x1), (.int .i64 x2), (.int .i64 x3)])]) ++ [some (Blk.mk .fix [(.int .i64 y0), (.int .i64 y1), (.int .i64 y2), (.int .i64 y3)])]) ++ [some (Blk.mk .fix [(.int .i64 z0), (.int .i64 z1), (.int .i64 z2), (.int .i64 z3)])]) (.use 78 (.int .i64 y1) (((H1 ++ [some (Blk.mk .fix [(.int .i64 x0), (.int .i64 x1), (.int .i64 x2), (.int .i64 x3)])]) ++ [some (Blk.mk .fix [(.int .i64 y0), (.int .i64 y1), (.int .i64 y2), (.int .i64 y3)])]) ++ [some (Blk.mk .fix [(.int .i64 z0), (.int .i64 z1), (.int .i64 z2), (.int .i64 z3)])]) (.use 81 (.int .i64 z1) (((H1 ++ [some (Blk.mk .fix [(.int .i64 x0), (.int .i64 x1), (.int .i64 x2), (.int .i64 x3)])]) ++ [some (Blk.mk .fix [(.int .i64 y0), (.int .i64 y1), (.int .i64 y2), (.int .i64 y3)])]) ++ [some (Blk.mk .fix [(.int .i64 z0), (.int .i64 z1), (.int .i64 z2), (.int .i64 z3)])]) (.no (.no (.con (.use 75 (.int .i64 x2) (((H1 ++ [some (Blk.mk .fix [(.int .i64 x0), (.int .i64 x1), (.int .i64 x2), (.int .i64 x3)])]) ++ [some (Blk.mk .fix [(.int .i64 y0), (.int .i64 y1), (.int .i64 y2), (.int .i64 y3)])]) ++ [some (Blk.mk .fix [(.int .i64 z0), (.int .i64 z1), (.int .i64 z2), (.int .i64 z3)])]) (.use 78 (.int .i64 y2) (((H1 ++ [some (Blk.mk .fix [(.int .i64 x0), (.int .i64 x1), (.int .i64 x2), (.int .i64 x3)])]) ++ [some (Blk.mk .fix [(.int .i64 y0), (.int .i64 y1), (.int .i64 y2), (.int .i64 y3)])]) ++ [some (Blk.mk .fix [(.int .i64 z0), (.int .i64 z1), (.int .i64 z2), (.int .i64 z3)])]) (.use 81 (.int .i64 z2) (((H1 ++ [some (Blk.mk .fix [(.int .i64 x0), (.int .i64 x1), (.int .i64 x2), (.int .i64 x3)])]) ++ [some (Blk.mk .fix [(.int .i64 y0), (.int .i64 y1), (.int .i64 y2), (.int .i64 y3)])]) ++ [some (Blk.mk .fix [(.int .i64 z0), (.int .i64 z1), (.int .i64 z2), (.int .i64 z3)])]) (.no (.no (.con (.use 75 (.int .i64 x3) (((H1 ++ [some (Blk.mk .fix [(.int .i64 x0), (.int .i64 x1), (.int .i64 x2), (.int .i64 x3)])]) ++ [some (Blk.mk .fix [(.int .i64 y0), (.int .i64 y1), (.int .i64 y2), (.int .i64 y3)])]) ++ [some (Blk.mk .fix [(.int .i64 z0), (.int .i64 z1), (.int .i64 z2), (.int .i64 z3)])]) (.use 78 (.int .i64 y3) (((H1 ++ [some (Blk.mk .fix [(.int .i64 x0), (.int .i64 x1), (.int .i64 x2), (.int .i64 x3)])]) ++ [some (Blk.mk .fix [(.int .i64 y0), (.int .i64 y1), (.int .i64 y2), (.int .i64 y3)])]) ++ [some (Blk.mk .fix [(.int .i64 z0), (.int .i64 z1), (.int .i64 z2), (.int .i64 z3)])]) (.use 81 (.int .i64 z3) (((H1 ++ [some (Blk.mk .fix [(.int .i64 x0), (.int .i64 x1), (.int .i64 x2), (.int .i64 x3)])]) ++ [some (Blk.mk .fix [(.int .i64 y0), (.int .i64 y1), (.int .i64 y2), (.int .i64 y3)])]) ++ [some (Blk.mk .fix [(.int .i64 z0), (.int .i64 z1), (.int .i64 z2), (.int .i64 z3)])]) (.no (.no (.con (.use 93 (.agg ⟨[(.int .i64 x0), (.int .i64 x1), (.int .i64 x2), (.int .i64 x3)]⟩) (((H1 ++ [some (Blk.mk .fix [(.int .i64 x0), (.int .i64 x1), (.int .i64 x2), (.int .i64 x3)])]) ++ [some (Blk.mk .fix [(.int .i64 y0), (.int .i64 y1), (.int .i64 y2), (.int .i64 y3)])]) ++ [some (Blk.mk .fix [(.int .i64 z0), (.int .i64 z1), (.int .i64 z2), (.int .i64 z3)])]) (.use 95 (.agg ⟨[(.int .i64 x0), (.int .i64 x1), (.int .i64 x2), (.int .i64 x3)]⟩) (((H1 ++ [some (Blk.mk .fix [(.int .i64 x0), (.int .i64 x1), (.int .i64 x2), (.int .i64 x3)])]) ++ [some (Blk.mk .fix [(.int .i64 y0), (.int .i64 y1), (.int .i64 y2), (.int .i64 y3)])]) ++ [some (Blk.mk .fix [(.int .i64 z0), (.int .i64 z1), (.int .i64 z2), (.int .i64 z3)])]) (.yes (.use 98 (.agg ⟨[(.int .i64 x0), (.int .i64 x1), (.int .i64 x2), (.int .i64 x3)]⟩) (((H1 ++ [some (Blk.mk .fix [(.int .i64 x0), (.int .i64 x1), (.int .i64 x2), (.int .i64 x3)])]) ++ [some (Blk.mk .fix [(.int .i64 y0), (.int .i64 y1), (.int .i64 y2), (.int .i64 y3)])]) ++ [some (Blk.mk .fix [(.int .i64 z0), (.int .i64 z1), (.int .i64 z2), (.int .i64 z3)])]) (.con (.con (.con (.con (.con (.yes (.use 105 (.agg ⟨[(.int .i64 x0), (.int .i64 x1), (.int .i64 x2), (.int .i64 x3)]⟩) (((H1 ++ [some (Blk.mk .fix [(.int .i64 x0), (.int .i64 x1), (.int .i64 x2), (.int .i64 x3)])]) ++ [some (Blk.mk .fix [(.int .i64 y0), (.int .i64 y1), (.int .i64 y2), (.int .i64 y3)])]) ++ [some (Blk.mk .fix [(.int .i64 z0), (.int .i64 z1), (.int .i64 z2), (.int .i64 z3)])]) (.con (.con (.con (.use 108 (.int .i64 bl) (((H1 ++ [some (Blk.mk .fix [(.int .i64 x0), (.int .i64 x1), (.int .i64 x2), (.int .i64 x3)])]) ++ [some (Blk.mk .fix [(.int .i64 y0), (.int .i64 y1), (.int .i64 y2), (.int .i64 y3)])]) ++ [some (Blk.mk .fix [(.int .i64 z0), (.int .i64 z1), (.int .i64 z2), (.int .i64 z3)])]) (.con (.con (.yes (.use 112 (.agg ⟨[(.int .i64 0), (.int .i64 0), (.int .i64 0), (.int .i64 0)]⟩) (((H1 ++ [some (Blk.mk .fix [(.int .i64 x0), (.int .i64 x1), (.int .i64 x2), (.int .i64 x3)])]) ++ [some (Blk.mk .fix [(.int .i64 y0), (.int .i64 y1), (.int .i64 y2), (.int .i64 y3)])]) ++ [some (Blk.mk .fix [(.int .i64 z0), (.int .i64 z1), (.int .i64 z2), (.int .i64 z3)])]) (.con (.con (.con (.con (.con .nil))))))))))))))))))))))))))))))))))))))))))))))))))))
theorem tree9k4 (s0 s1 l r lb lc : Value) (a2 a3 n bl : Int) (x0 x1 x2 x3 : Int) (y0 y1 y2 y3 : Int) (z0 z1 z2 z3 : Int) (H H1 : Heap) : pieceT tblC gK 200 (resLv [.tmp 8]) il9.body (hn9k4 s0 s1 l r lb lc a2 a3 n bl x0 x1 x2 x3 y0 y1 y2 y3 z0 z1 z2 z3 H H1) (fr 119 [(0, s0), (1, s1), (2, (.int .i64 a2)), (3, (.int .i64 a3))]) H =
(.claim (Wp (Plain.env tblC gK) (inL [2, 3, 8, 9, 10]) (.block 0 (.loop body9_0)) (fr 119 [(0, s0), (1, s1), (2, (.int .i64 a2)), (3, (.int .i64 a3)), (8, (.bool false)), (9, (.slice none 0 0)), (10, (.slice none 0 0)), (11, (.int .i64 0))]) H fun e s h' => e = .normal ∧ s = (fr 119 [(2, (.int .i64 a2)), (3, (.int .i64 a3)), (8, (.bool false)), (9, l), (10, r)]) ∧ h' = H1)
 (.claim (opA (Plain.env tblC gK) (.len (.const l)) [] H1 = some ((.int .i64 n), H1))
 (.req (preWithin 0 n) (.req true (.claim (opA (Plain.env tblC gK) (.call 24 [(.const l)]) [] H1 = some ((.agg ⟨[(.int .i64 x0), (.int .i64 x1), (.int .i64 x2), (.int .i64 x3)]⟩), H1))
 (.req true (.req true (.claim (opA (Plain.env tblC gK) (.slice 5 (.const l) none (some (.const (.int .i64 (wn a2 0 n)))) none) [] H1 = some (lb, H1))
 (.claim (opA (Plain.env tblC gK) (.call 24 [(.const lb)]) [] H1 = some ((.agg ⟨[(.int .i64 y0), (.int .i64 y1), (.int .i64 y2), (.int .i64 y3)]⟩), H1))
 (.req true (.req true (.claim (opA (Plain.env tblC gK) (.slice 5 (.const l) (some (.const (.int .i64 (wn a2 0 n)))) none none) [] H1 = some (lc, H1))
 (.claim (opA (Plain.env tblC gK) (.call 24 [(.const lc)]) [] H1 = some ((.agg ⟨[(.int .i64 z0), (.int .i64 z1), (.int .i64 z2), (.int .i64 z3)]⟩), H1))
 (.req true (.req true (.req true (.claim (opA (Plain.env tblC gK) (.store (.const (.pointer (some ⟨(H1).length, 0, none⟩))) (.const (.agg ⟨[(.int .i64 x0), (.int .i64 x1), (.int .i64 x2), (.int .i64 x3)]⟩)) 4) [] (((H1 ++ [some (Blk.mk .fix [(.int .i64 0), (.int .i64 0), (.int .i64 0), (.int .i64 0)])]) ++ [some (Blk.mk .fix [(.int .i64 0), (.int .i64 0), (.int .i64 0), (.int .i64 0)])]) ++ [some (Blk.mk .fix [(.int .i64 0), (.int .i64 0), (.int .i64 0), (.int .i64 0)])]) = some ((.tuple ⟨[]⟩), (((H1 ++ [some (Blk.mk .fix [(.int .i64 x0), (.int .i64 x1), (.int .i64 x2), (.int .i64 x3)])]) ++ [some (Blk.mk .fix [(.int .i64 0), (.int .i64 0), (.int .i64 0), (.int .i64 0)])]) ++ [some (Blk.mk .fix [(.int .i64 0), (.int .i64 0), (.int .i64 0), (.int .i64 0)])])))
 (.claim (opA (Plain.env tblC gK) (.store (.const (.pointer (some ⟨((H1 ++ [some (Blk.mk .fix [(.int .i64 0), (.int .i64 0), (.int .i64 0), (.int .i64 0)])])).length, 0, none⟩))) (.const (.agg ⟨[(.int .i64 y0), (.int .i64 y1), (.int .i64 y2), (.int .i64 y3)]⟩)) 4) [] (((H1 ++ [some (Blk.mk .fix [(.int .i64 x0), (.int .i64 x1), (.int .i64 x2), (.int .i64 x3)])]) ++ [some (Blk.mk .fix [(.int .i64 0), (.int .i64 0), (.int .i64 0), (.int .i64 0)])]) ++ [some (Blk.mk .fix [(.int .i64 0), (.int .i64 0), (.int .i64 0), (.int .i64 0)])]) = some ((.tuple ⟨[]⟩), (((H1 ++ [some (Blk.mk .fix [(.int .i64 x0), (.int .i64 x1), (.int .i64 x2), (.int .i64 x3)])]) ++ [some (Blk.mk .fix [(.int .i64 y0), (.int .i64 y1), (.int .i64 y2), (.int .i64 y3)])]) ++ [some (Blk.mk .fix [(.int .i64 0), (.int .i64 0), (.int .i64 0), (.int .i64 0)])])))
 (.claim (opA (Plain.env tblC gK) (.store (.const (.pointer (some ⟨(((H1 ++ [some (Blk.mk .fix [(.int .i64 0), (.int .i64 0), (.int .i64 0), (.int .i64 0)])]) ++ [some (Blk.mk .fix [(.int .i64 0), (.int .i64 0), (.int .i64 0), (.int .i64 0)])])).length, 0, none⟩))) (.const (.agg ⟨[(.int .i64 z0), (.int .i64 z1), (.int .i64 z2), (.int .i64 z3)]⟩)) 4) [] (((H1 ++ [some (Blk.mk .fix [(.int .i64 x0), (.int .i64 x1), (.int .i64 x2), (.int .i64 x3)])]) ++ [some (Blk.mk .fix [(.int .i64 y0), (.int .i64 y1), (.int .i64 y2), (.int .i64 y3)])]) ++ [some (Blk.mk .fix [(.int .i64 0), (.int .i64 0), (.int .i64 0), (.int .i64 0)])]) = some ((.tuple ⟨[]⟩), (((H1 ++ [some (Blk.mk .fix [(.int .i64 x0), (.int .i64 x1), (.int .i64 x2), (.int .i64 x3)])]) ++ [some (Blk.mk .fix [(.int .i64 y0), (.int .i64 y1), (.int .i64 y2), (.int .i64 y3)])]) ++ [some (Blk.mk .fix [(.int .i64 z0), (.int .i64 z1), (.int .i64 z2), (.int .i64 z3)])])))
 (.claim ((∃ h2, opA (Plain.env tblC gK) (.call 24 [(.const l)]) [] (H1 ++ [some (Blk.mk .fix [(.int .i64 0), (.int .i64 0), (.int .i64 0), (.int .i64 0)])]) = some ((.agg ⟨[(.int .i64 x0), (.int .i64 x1), (.int .i64 x2), (.int .i64 x3)]⟩), h2)) ∧ eqV (.agg ⟨[(.int .i64 x0), (.int .i64 x1), (.int .i64 x2), (.int .i64 x3)]⟩) (.agg ⟨[(.int .i64 x0), (.int .i64 x1), (.int .i64 x2), (.int .i64 x3)]⟩) = true)
 (.claim ((∃ h2, opA (Plain.env tblC gK) (.call 24 [(.const l)]) [] ((H1 ++ [some (Blk.mk .fix [(.int .i64 0), (.int .i64 0), (.int .i64 0), (.int .i64 0)])]) ++ [some (Blk.mk .fix [(.int .i64 0), (.int .i64 0), (.int .i64 0), (.int .i64 0)])]) = some ((.agg ⟨[(.int .i64 x0), (.int .i64 x1), (.int .i64 x2), (.int .i64 x3)]⟩), h2)) ∧ eqV (.agg ⟨[(.int .i64 x0), (.int .i64 x1), (.int .i64 x2), (.int .i64 x3)]⟩) (.agg ⟨[(.int .i64 x0), (.int .i64 x1), (.int .i64 x2), (.int .i64 x3)]⟩) = true)
 (.claim ((∃ h2, opA (Plain.env tblC gK) (.call 24 [(.const l)]) [] (((H1 ++ [some (Blk.mk .fix [(.int .i64 0), (.int .i64 0), (.int .i64 0), (.int .i64 0)])]) ++ [some (Blk.mk .fix [(.int .i64 0), (.int .i64 0), (.int .i64 0), (.int .i64 0)])]) ++ [some (Blk.mk .fix [(.int .i64 0), (.int .i64 0), (.int .i64 0), (.int .i64 0)])]) = some ((.agg ⟨[(.int .i64 x0), (.int .i64 x1), (.int .i64 x2), (.int .i64 x3)]⟩), h2)) ∧ eqV (.agg ⟨[(.int .i64 x0), (.int .i64 x1), (.int .i64 x2), (.int .i64 x3)]⟩) (.agg ⟨[(.int .i64 x0), (.int .i64 x1), (.int .i64 x2), (.int .i64 x3)]⟩) = true)
 (.claim ((∃ h2, opA (Plain.env tblC gK) (.call 24 [(.const lb)]) [] (H1 ++ [some (Blk.mk .fix [(.int .i64 0), (.int .i64 0), (.int .i64 0), (.int .i64 0)])]) = some ((.agg ⟨[(.int .i64 y0), (.int .i64 y1), (.int .i64 y2), (.int .i64 y3)]⟩), h2)) ∧ eqV (.agg ⟨[(.int .i64 y0), (.int .i64 y1), (.int .i64 y2), (.int .i64 y3)]⟩) (.agg ⟨[(.int .i64 y0), (.int .i64 y1), (.int .i64 y2), (.int .i64 y3)]⟩) = true)
 (.claim ((∃ h2, opA (Plain.env tblC gK) (.call 24 [(.const lb)]) [] ((H1 ++ [some (Blk.mk .fix [(.int .i64 0), (.int .i64 0), (.int .i64 0), (.int .i64 0)])]) ++ [some (Blk.mk .fix [(.int .i64 0), (.int .i64 0), (.int .i64 0), (.int .i64 0)])]) = some ((.agg ⟨[(.int .i64 y0), (.int .i64 y1), (.int .i64 y2), (.int .i64 y3)]⟩), h2)) ∧ eqV (.agg ⟨[(.int .i64 y0), (.int .i64 y1), (.int .i64 y2), (.int .i64 y3)]⟩) (.agg ⟨[(.int .i64 y0), (.int .i64 y1), (.int .i64 y2), (.int .i64 y3)]⟩) = true)
 (.claim ((∃ h2, opA (Plain.env tblC gK) (.call 24 [(.const lb)]) [] (((H1 ++ [some (Blk.mk .fix [(.int .i64 0), (.int .i64 0), (.int .i64 0), (.int .i64 0)])]) ++ [some (Blk.mk .fix [(.int .i64 0), (.int .i64 0), (.int .i64 0), (.int .i64 0)])]) ++ [some (Blk.mk .fix [(.int .i64 0), (.int .i64 0), (.int .i64 0), (.int .i64 0)])]) = some ((.agg ⟨[(.int .i64 y0), (.int .i64 y1), (.int .i64 y2), (.int .i64 y3)]⟩), h2)) ∧ eqV (.agg ⟨[(.int .i64 y0), (.int .i64 y1), (.int .i64 y2), (.int .i64 y3)]⟩) (.agg ⟨[(.int .i64 y0), (.int .i64 y1), (.int .i64 y2), (.int .i64 y3)]⟩) = true)
 (.claim ((∃ h2, opA (Plain.env tblC gK) (.call 24 [(.const lc)]) [] (H1 ++ [some (Blk.mk .fix [(.int .i64 0), (.int .i64 0), (.int .i64 0), (.int .i64 0)])]) = some ((.agg ⟨[(.int .i64 z0), (.int .i64 z1), (.int .i64 z2), (.int .i64 z3)]⟩), h2)) ∧ eqV (.agg ⟨[(.int .i64 z0), (.int .i64 z1), (.int .i64 z2), (.int .i64 z3)]⟩) (.agg ⟨[(.int .i64 z0), (.int .i64 z1), (.int .i64 z2), (.int .i64 z3)]⟩) = true)
 (.claim ((∃ h2, opA (Plain.env tblC gK) (.call 24 [(.const lc)]) [] ((H1 ++ [some (Blk.mk .fix [(.int .i64 0), (.int .i64 0), (.int .i64 0), (.int .i64 0)])]) ++ [some (Blk.mk .fix [(.int .i64 0), (.int .i64 0), (.int .i64 0), (.int .i64 0)])]) = some ((.agg ⟨[(.int .i64 z0), (.int .i64 z1), (.int .i64 z2), (.int .i64 z3)]⟩), h2)) ∧ eqV (.agg ⟨[(.int .i64 z0), (.int .i64 z1), (.int .i64 z2), (.int .i64 z3)]⟩) (.agg ⟨[(.int .i64 z0), (.int .i64 z1), (.int .i64 z2), (.int .i64 z3)]⟩) = true)
 (.claim ((∃ h2, opA (Plain.env tblC gK) (.call 24 [(.const lc)]) [] (((H1 ++ [some (Blk.mk .fix [(.int .i64 0), (.int .i64 0), (.int .i64 0), (.int .i64 0)])]) ++ [some (Blk.mk .fix [(.int .i64 0), (.int .i64 0), (.int .i64 0), (.int .i64 0)])]) ++ [some (Blk.mk .fix [(.int .i64 0), (.int .i64 0), (.int .i64 0), (.int .i64 0)])]) = some ((.agg ⟨[(.int .i64 z0), (.int .i64 z1), (.int .i64 z2), (.int .i64 z3)]⟩), h2)) ∧ eqV (.agg ⟨[(.int .i64 z0), (.int .i64 z1), (.int .i64 z2), (.int .i64 z3)]⟩) (.agg ⟨[(.int .i64 z0), (.int .i64 z1), (.int .i64 z2), (.int .i64 z3)]⟩) = true)
 (.req true (.claim (opA (Plain.env tblC gK) (.load (.const (.pointer (some ⟨(H1).length, 0, none⟩))) none) [] (((H1 ++ [some (Blk.mk .fix [(.int .i64 x0), (.int .i64 x1), (.int .i64 x2), (.int .i64 x3)])]) ++ [some (Blk.mk .fix [(.int .i64 y0), (.int .i64 y1), (.int .i64 y2), (.int .i64 y3)])]) ++ [some (Blk.mk .fix [(.int .i64 z0), (.int .i64 z1), (.int .i64 z2), (.int .i64 z3)])]) = some ((.int .i64 x0), (((H1 ++ [some (Blk.mk .fix [(.int .i64 x0), (.int .i64 x1), (.int .i64 x2), (.int .i64 x3)])]) ++ [some (Blk.mk .fix [(.int .i64 y0), (.int .i64 y1), (.int .i64 y2), (.int .i64 y3)])]) ++ [some (Blk.mk .fix [(.int .i64 z0), (.int .i64 z1), (.int .i64 z2), (.int .i64 z3)])])))
 (.claim (opA (Plain.env tblC gK) (.load (.const (.pointer (some ⟨((H1 ++ [some (Blk.mk .fix [(.int .i64 0), (.int .i64 0), (.int .i64 0), (.int .i64 0)])])).length, 0, none⟩))) none) [] (((H1 ++ [some (Blk.mk .fix [(.int .i64 x0), (.int .i64 x1), (.int .i64 x2), (.int .i64 x3)])]) ++ [some (Blk.mk .fix [(.int .i64 y0), (.int .i64 y1), (.int .i64 y2), (.int .i64 y3)])]) ++ [some (Blk.mk .fix [(.int .i64 z0), (.int .i64 z1), (.int .i64 z2), (.int .i64 z3)])]) = some ((.int .i64 y0), (((H1 ++ [some (Blk.mk .fix [(.int .i64 x0), (.int .i64 x1), (.int .i64 x2), (.int .i64 x3)])]) ++ [some (Blk.mk .fix [(.int .i64 y0), (.int .i64 y1), (.int .i64 y2), (.int .i64 y3)])]) ++ [some (Blk.mk .fix [(.int .i64 z0), (.int .i64 z1), (.int .i64 z2), (.int .i64 z3)])])))
 (.claim (opA (Plain.env tblC gK) (.load (.const (.pointer (some ⟨(((H1 ++ [some (Blk.mk .fix [(.int .i64 0), (.int .i64 0), (.int .i64 0), (.int .i64 0)])]) ++ [some (Blk.mk .fix [(.int .i64 0), (.int .i64 0), (.int .i64 0), (.int .i64 0)])])).length, 0, none⟩))) none) [] (((H1 ++ [some (Blk.mk .fix [(.int .i64 x0), (.int .i64 x1), (.int .i64 x2), (.int .i64 x3)])]) ++ [some (Blk.mk .fix [(.int .i64 y0), (.int .i64 y1), (.int .i64 y2), (.int .i64 y3)])]) ++ [some (Blk.mk .fix [(.int .i64 z0), (.int .i64 z1), (.int .i64 z2), (.int .i64 z3)])]) = some ((.int .i64 z0), (((H1 ++ [some (Blk.mk .fix [(.int .i64 x0), (.int .i64 x1), (.int .i64 x2), (.int .i64 x3)])]) ++ [some (Blk.mk .fix [(.int .i64 y0), (.int .i64 y1), (.int .i64 y2), (.int .i64 y3)])]) ++ [some (Blk.mk .fix [(.int .i64 z0), (.int .i64 z1), (.int .i64 z2), (.int .i64 z3)])])))
 (.req (!(x0 != (IntKind.wrap .i64 (y0 + z0)))) (.req (!(decide (0 ≥ a3))) (.req true (.claim (opA (Plain.env tblC gK) (.load (.const (.pointer (some ⟨(H1).length, 1, none⟩))) none) [] (((H1 ++ [some (Blk.mk .fix [(.int .i64 x0), (.int .i64 x1), (.int .i64 x2), (.int .i64 x3)])]) ++ [some (Blk.mk .fix [(.int .i64 y0), (.int .i64 y1), (.int .i64 y2), (.int .i64 y3)])]) ++ [some (Blk.mk .fix [(.int .i64 z0), (.int .i64 z1), (.int .i64 z2), (.int .i64 z3)])]) = some ((.int .i64 x1), (((H1 ++ [some (Blk.mk .fix [(.int .i64 x0), (.int .i64 x1), (.int .i64 x2), (.int .i64 x3)])]) ++ [some (Blk.mk .fix [(.int .i64 y0), (.int .i64 y1), (.int .i64 y2), (.int .i64 y3)])]) ++ [some (Blk.mk .fix [(.int .i64 z0), (.int .i64 z1), (.int .i64 z2), (.int .i64 z3)])])))
 (.claim (opA (Plain.env tblC gK) (.load (.const (.pointer (some ⟨((H1 ++ [some (Blk.mk .fix [(.int .i64 0), (.int .i64 0), (.int .i64 0), (.int .i64 0)])])).length, 1, none⟩))) none) [] (((H1 ++ [some (Blk.mk .fix [(.int .i64 x0), (.int .i64 x1), (.int .i64 x2), (.int .i64 x3)])]) ++ [some (Blk.mk .fix [(.int .i64 y0), (.int .i64 y1), (.int .i64 y2), (.int .i64 y3)])]) ++ [some (Blk.mk .fix [(.int .i64 z0), (.int .i64 z1), (.int .i64 z2), (.int .i64 z3)])]) = some ((.int .i64 y1), (((H1 ++ [some (Blk.mk .fix [(.int .i64 x0), (.int .i64 x1), (.int .i64 x2), (.int .i64 x3)])]) ++ [some (Blk.mk .fix [(.int .i64 y0), (.int .i64 y1), (.int .i64 y2), (.int .i64 y3)])]) ++ [some (Blk.mk .fix [(.int .i64 z0), (.int .i64 z1), (.int .i64 z2), (.int .i64 z3)])])))
 (.claim (opA (Plain.env tblC gK) (.load (.const (.pointer (some ⟨(((H1 ++ [some (Blk.mk .fix [(.int .i64 0), (.int .i64 0), (.int .i64 0), (.int .i64 0)])]) ++ [some (Blk.mk .fix [(.int .i64 0), (.int .i64 0), (.int .i64 0), (.int .i64 0)])])).length, 1, none⟩))) none) [] (((H1 ++ [some (Blk.mk .fix [(.int .i64 x0), (.int .i64 x1), (.int .i64 x2), (.int .i64 x3)])]) ++ [some (Blk.mk .fix [(.int .i64 y0), (.int .i64 y1), (.int .i64 y2), (.int .i64 y3)])]) ++ [some (Blk.mk .fix [(.int .i64 z0), (.int .i64 z1), (.int .i64 z2), (.int .i64 z3)])]) = some ((.int .i64 z1), (((H1 ++ [some (Blk.mk .fix [(.int .i64 x0), (.int .i64 x1), (.int .i64 x2), (.int .i64 x3)])]) ++ [some (Blk.mk .fix [(.int .i64 y0), (.int .i64 y1), (.int .i64 y2), (.int .i64 y3)])]) ++ [some (Blk.mk .fix [(.int .i64 z0), (.int .i64 z1), (.int .i64 z2), (.int .i64 z3)])])))
 (.req (!(x1 != (IntKind.wrap .i64 (y1 + z1)))) (.req (!(decide (1 ≥ a3))) (.req true (.claim (opA (Plain.env tblC gK) (.load (.const (.pointer (some ⟨(H1).length, 2, none⟩))) none) [] (((H1 ++ [some (Blk.mk .fix [(.int .i64 x0), (.int .i64 x1), (.int .i64 x2), (.int .i64 x3)])]) ++ [some (Blk.mk .fix [(.int .i64 y0), (.int .i64 y1), (.int .i64 y2), (.int .i64 y3)])]) ++ [some (Blk.mk .fix [(.int .i64 z0), (.int .i64 z1), (.int .i64 z2), (.int .i64 z3)])]) = some ((.int .i64 x2), (((H1 ++ [some (Blk.mk .fix [(.int .i64 x0), (.int .i64 x1), (.int .i64 x2), (.int .i64 x3)])]) ++ [some (Blk.mk .fix [(.int .i64 y0), (.int .i64 y1), (.int .i64 y2), (.int .i64 y3)])]) ++ [some (Blk.mk .fix [(.int .i64 z0), (.int .i64 z1), (.int .i64 z2), (.int .i64 z3)])])))
 (.claim (opA (Plain.env tblC gK) (.load (.const (.pointer (some ⟨((H1 ++ [some (Blk.mk .fix [(.int .i64 0), (.int .i64 0), (.int .i64 0), (.int .i64 0)])])).length, 2, none⟩))) none) [] (((H1 ++ [some (Blk.mk .fix [(.int .i64 x0), (.int .i64 x1), (.int .i64 x2), (.int .i64 x3)])]) ++ [some (Blk.mk .fix [(.int .i64 y0), (.int .i64 y1), (.int .i64 y2), (.int .i64 y3)])]) ++ [some (Blk.mk .fix [(.int .i64 z0), (.int .i64 z1), (.int .i64 z2), (.int .i64 z3)])]) = some ((.int .i64 y2), (((H1 ++ [some (Blk.mk .fix [(.int .i64 x0), (.int .i64 x1), (.int .i64 x2), (.int .i64 x3)])]) ++ [some (Blk.mk .fix [(.int .i64 y0), (.int .i64 y1), (.int .i64 y2), (.int .i64 y3)])]) ++ [some (Blk.mk .fix [(.int .i64 z0), (.int .i64 z1), (.int .i64 z2), (.int .i64 z3)])])))
 (.claim (opA (Plain.env tblC gK) (.load (.const (.pointer (some ⟨(((H1 ++ [some (Blk.mk .fix [(.int .i64 0), (.int .i64 0), (.int .i64 0), (.int .i64 0)])]) ++ [some (Blk.mk .fix [(.int .i64 0), (.int .i64 0), (.int .i64 0), (.int .i64 0)])])).length, 2, none⟩))) none) [] (((H1 ++ [some (Blk.mk .fix [(.int .i64 x0), (.int .i64 x1), (.int .i64 x2), (.int .i64 x3)])]) ++ [some (Blk.mk .fix [(.int .i64 y0), (.int .i64 y1), (.int .i64 y2), (.int .i64 y3)])]) ++ [some (Blk.mk .fix [(.int .i64 z0), (.int .i64 z1), (.int .i64 z2), (.int .i64 z3)])]) = some ((.int .i64 z2), (((H1 ++ [some (Blk.mk .fix [(.int .i64 x0), (.int .i64 x1), (.int .i64 x2), (.int .i64 x3)])]) ++ [some (Blk.mk .fix [(.int .i64 y0), (.int .i64 y1), (.int .i64 y2), (.int .i64 y3)])]) ++ [some (Blk.mk .fix [(.int .i64 z0), (.int .i64 z1), (.int .i64 z2), (.int .i64 z3)])])))
 (.req (!(x2 != (IntKind.wrap .i64 (y2 + z2)))) (.req (!(decide (2 ≥ a3))) (.req true (.claim (opA (Plain.env tblC gK) (.load (.const (.pointer (some ⟨(H1).length, 3, none⟩))) none) [] (((H1 ++ [some (Blk.mk .fix [(.int .i64 x0), (.int .i64 x1), (.int .i64 x2), (.int .i64 x3)])]) ++ [some (Blk.mk .fix [(.int .i64 y0), (.int .i64 y1), (.int .i64 y2), (.int .i64 y3)])]) ++ [some (Blk.mk .fix [(.int .i64 z0), (.int .i64 z1), (.int .i64 z2), (.int .i64 z3)])]) = some ((.int .i64 x3), (((H1 ++ [some (Blk.mk .fix [(.int .i64 x0), (.int .i64 x1), (.int .i64 x2), (.int .i64 x3)])]) ++ [some (Blk.mk .fix [(.int .i64 y0), (.int .i64 y1), (.int .i64 y2), (.int .i64 y3)])]) ++ [some (Blk.mk .fix [(.int .i64 z0), (.int .i64 z1), (.int .i64 z2), (.int .i64 z3)])])))
 (.claim (opA (Plain.env tblC gK) (.load (.const (.pointer (some ⟨((H1 ++ [some (Blk.mk .fix [(.int .i64 0), (.int .i64 0), (.int .i64 0), (.int .i64 0)])])).length, 3, none⟩))) none) [] (((H1 ++ [some (Blk.mk .fix [(.int .i64 x0), (.int .i64 x1), (.int .i64 x2), (.int .i64 x3)])]) ++ [some (Blk.mk .fix [(.int .i64 y0), (.int .i64 y1), (.int .i64 y2), (.int .i64 y3)])]) ++ [some (Blk.mk .fix [(.int .i64 z0), (.int .i64 z1), (.int .i64 z2), (.int .i64 z3)])]) = some ((.int .i64 y3), (((H1 ++ [some (Blk.mk .fix [(.int .i64 x0), (.int .i64 x1), (.int .i64 x2), (.int .i64 x3)])]) ++ [some (Blk.mk .fix [(.int .i64 y0), (.int .i64 y1), (.int .i64 y2), (.int .i64 y3)])]) ++ [some (Blk.mk .fix [(.int .i64 z0), (.int .i64 z1), (.int .i64 z2), (.int .i64 z3)])])))
 (.claim (opA (Plain.env tblC gK) (.load (.const (.pointer (some ⟨(((H1 ++ [some (Blk.mk .fix [(.int .i64 0), (.int .i64 0), (.int .i64 0), (.int .i64 0)])]) ++ [some (Blk.mk .fix [(.int .i64 0), (.int .i64 0), (.int .i64 0), (.int .i64 0)])])).length, 3, none⟩))) none) [] (((H1 ++ [some (Blk.mk .fix [(.int .i64 x0), (.int .i64 x1), (.int .i64 x2), (.int .i64 x3)])]) ++ [some (Blk.mk .fix [(.int .i64 y0), (.int .i64 y1), (.int .i64 y2), (.int .i64 y3)])]) ++ [some (Blk.mk .fix [(.int .i64 z0), (.int .i64 z1), (.int .i64 z2), (.int .i64 z3)])]) = some ((.int .i64 z3), (((H1 ++ [some (Blk.mk .fix [(.int .i64 x0), (.int .i64 x1), (.int .i64 x2), (.int .i64 x3)])]) ++ [some (Blk.mk .fix [(.int .i64 y0), (.int .i64 y1), (.int .i64 y2), (.int .i64 y3)])]) ++ [some (Blk.mk .fix [(.int .i64 z0), (.int .i64 z1), (.int .i64 z2), (.int .i64 z3)])])))
 (.req (!(x3 != (IntKind.wrap .i64 (y3 + z3)))) (.req (!(decide (3 ≥ a3))) (.req true (.claim (opA (Plain.env tblC gK) (.load (.const (.pointer (some ⟨(H1).length, 0, none⟩))) (some 4)) [] (((H1 ++ [some (Blk.mk .fix [(.int .i64 x0), (.int .i64 x1), (.int .i64 x2), (.int .i64 x3)])]) ++ [some (Blk.mk .fix [(.int .i64 y0), (.int .i64 y1), (.int .i64 y2), (.int .i64 y3)])]) ++ [some (Blk.mk .fix [(.int .i64 z0), (.int .i64 z1), (.int .i64 z2), (.int .i64 z3)])]) = some ((.agg ⟨[(.int .i64 x0), (.int .i64 x1), (.int .i64 x2), (.int .i64 x3)]⟩), (((H1 ++ [some (Blk.mk .fix [(.int .i64 x0), (.int .i64 x1), (.int .i64 x2), (.int .i64 x3)])]) ++ [some (Blk.mk .fix [(.int .i64 y0), (.int .i64 y1), (.int .i64 y2), (.int .i64 y3)])]) ++ [some (Blk.mk .fix [(.int .i64 z0), (.int .i64 z1), (.int .i64 z2), (.int .i64 z3)])])))
 (.claim (opA (Plain.env tblC gK) (.call 26 [(.const r)]) [] (((H1 ++ [some (Blk.mk .fix [(.int .i64 x0), (.int .i64 x1), (.int .i64 x2), (.int .i64 x3)])]) ++ [some (Blk.mk .fix [(.int .i64 y0), (.int .i64 y1), (.int .i64 y2), (.int .i64 y3)])]) ++ [some (Blk.mk .fix [(.int .i64 z0), (.int .i64 z1), (.int .i64 z2), (.int .i64 z3)])]) = some ((.agg ⟨[(.int .i64 x0), (.int .i64 x1), (.int .i64 x2), (.int .i64 x3)]⟩), (((H1 ++ [some (Blk.mk .fix [(.int .i64 x0), (.int .i64 x1), (.int .i64 x2), (.int .i64 x3)])]) ++ [some (Blk.mk .fix [(.int .i64 y0), (.int .i64 y1), (.int .i64 y2), (.int .i64 y3)])]) ++ [some (Blk.mk .fix [(.int .i64 z0), (.int .i64 z1), (.int .i64 z2), (.int .i64 z3)])])))
 (.req ((x0 == x0) && ((x1 == x1) && ((x2 == x2) && ((x3 == x3) && true)))) (.claim (opA (Plain.env tblC gK) (.load (.const (.pointer (some ⟨(H1).length, 0, none⟩))) (some 4)) [] (((H1 ++ [some (Blk.mk .fix [(.int .i64 x0), (.int .i64 x1), (.int .i64 x2), (.int .i64 x3)])]) ++ [some (Blk.mk .fix [(.int .i64 y0), (.int .i64 y1), (.int .i64 y2), (.int .i64 y3)])]) ++ [some (Blk.mk .fix [(.int .i64 z0), (.int .i64 z1), (.int .i64 z2), (.int .i64 z3)])]) = some ((.agg ⟨[(.int .i64 x0), (.int .i64 x1), (.int .i64 x2), (.int .i64 x3)]⟩), (((H1 ++ [some (Blk.mk .fix [(.int .i64 x0), (.int .i64 x1), (.int .i64 x2), (.int .i64 x3)])]) ++ [some (Blk.mk .fix [(.int .i64 y0), (.int .i64 y1), (.int .i64 y2), (.int .i64 y3)])]) ++ [some (Blk.mk .fix [(.int .i64 z0), (.int .i64 z1), (.int .i64 z2), (.int .i64 z3)])])))
 (.req true (.req ((fromB ⟨x0, x1, x2, x3⟩ a3) == 0) (.claim (opA (Plain.env tblC gK) (.load (.const (.pointer (some ⟨(H1).length, 0, none⟩))) (some 4)) [] (((H1 ++ [some (Blk.mk .fix [(.int .i64 x0), (.int .i64 x1), (.int .i64 x2), (.int .i64 x3)])]) ++ [some (Blk.mk .fix [(.int .i64 y0), (.int .i64 y1), (.int .i64 y2), (.int .i64 y3)])]) ++ [some (Blk.mk .fix [(.int .i64 z0), (.int .i64 z1), (.int .i64 z2), (.int .i64 z3)])]) = some ((.agg ⟨[(.int .i64 x0), (.int .i64 x1), (.int .i64 x2), (.int .i64 x3)]⟩), (((H1 ++ [some (Blk.mk .fix [(.int .i64 x0), (.int .i64 x1), (.int .i64 x2), (.int .i64 x3)])]) ++ [some (Blk.mk .fix [(.int .i64 y0), (.int .i64 y1), (.int .i64 y2), (.int .i64 y3)])]) ++ [some (Blk.mk .fix [(.int .i64 z0), (.int .i64 z1), (.int .i64 z2), (.int .i64 z3)])])))
 (.req true (.claim (opA (Plain.env tblC gK) (.call 29 [(.const r)]) [] (((H1 ++ [some (Blk.mk .fix [(.int .i64 x0), (.int .i64 x1), (.int .i64 x2), (.int .i64 x3)])]) ++ [some (Blk.mk .fix [(.int .i64 y0), (.int .i64 y1), (.int .i64 y2), (.int .i64 y3)])]) ++ [some (Blk.mk .fix [(.int .i64 z0), (.int .i64 z1), (.int .i64 z2), (.int .i64 z3)])]) = some ((.int .i64 bl), (((H1 ++ [some (Blk.mk .fix [(.int .i64 x0), (.int .i64 x1), (.int .i64 x2), (.int .i64 x3)])]) ++ [some (Blk.mk .fix [(.int .i64 y0), (.int .i64 y1), (.int .i64 y2), (.int .i64 y3)])]) ++ [some (Blk.mk .fix [(.int .i64 z0), (.int .i64 z1), (.int .i64 z2), (.int .i64 z3)])])))
 (.req ((fromB ⟨x0, x1, x2, x3⟩ 0) == bl) (.claim (opA (Plain.env tblC gK) (.call 24 [(.const (.slice none 0 0))]) [] (((H1 ++ [some (Blk.mk .fix [(.int .i64 x0), (.int .i64 x1), (.int .i64 x2), (.int .i64 x3)])]) ++ [some (Blk.mk .fix [(.int .i64 y0), (.int .i64 y1), (.int .i64 y2), (.int .i64 y3)])]) ++ [some (Blk.mk .fix [(.int .i64 z0), (.int .i64 z1), (.int .i64 z2), (.int .i64 z3)])]) = some ((.agg ⟨[(.int .i64 0), (.int .i64 0), (.int .i64 0), (.int .i64 0)]⟩), (((H1 ++ [some (Blk.mk .fix [(.int .i64 x0), (.int .i64 x1), (.int .i64 x2), (.int .i64 x3)])]) ++ [some (Blk.mk .fix [(.int .i64 y0), (.int .i64 y1), (.int .i64 y2), (.int .i64 y3)])]) ++ [some (Blk.mk .fix [(.int .i64 z0), (.int .i64 z1), (.int .i64 z2), (.int .i64 z3)])])))
 (.req true (.ret (pk .ret (fr 119 [(8, (.bool true))])) (((H1 ++ [some (Blk.mk .fix [(.int .i64 x0), (.int .i64 x1), (.int .i64 x2), (.int .i64 x3)])]) ++ [some (Blk.mk .fix [(.int .i64 y0), (.int .i64 y1), (.int .i64 y2), (.int .i64 y3)])]) ++ [some (Blk.mk .fix [(.int .i64 z0), (.int .i64 z1), (.int .i64 z2), (.int .i64 z3)])]))))))))))))))))))))))))))))))))))))))))))))))))))))))))))))))))))) := by kernel_rfl

structure In9 (h0 : Heap) (l r : Value) (rows : List (List Value)) (H : Heap) : Prop where
  len : h0.length ≤ H.length
  sub : ∀ B blk, rd h0 B = some blk → rd H B = some blk
  ll : LsOf 5 h0.length H l rows
  lr : LsOf 5 h0.length H r rows
  ne : ∀ B n c n' c', l = .slice (some ⟨B, 0, none⟩) n c → r ≠ .slice (some ⟨B, 0, none⟩) n' c'
theorem In9.next {h0 : Heap} {l r : Value} {rows : List (List Value)} {H : Heap} (i : In9 h0 l r rows H) {row : List Value} (hw : row.length = 5) (hn : rows.length ≤ 1000) :
    ∃ l2 r2 H2 H3, (∀ Γ, opA Γ (.append 5 40 (.const l) (.const (.slice (some ⟨H.length, 0, none⟩) 1 1))) [] (H ++ [some (Blk.mk .fix row)]) = some (l2, H2)) ∧
      (∀ Γ, opA Γ (.append 5 40 (.const r) (.const (.slice (some ⟨H2.length, 0, none⟩) 1 1))) [] (H2 ++ [some (Blk.mk .fix row)]) = some (r2, H3)) ∧ In9 h0 l2 r2 (rows ++ [row]) H3 := by
  obtain ⟨l2, H2, e1, a1, a2, a3, a4⟩ := ls_grow (eby := 40) (row := row) i.ll hw (by decide) (by omega) (by omega) i.len
  have lr2 : LsOf 5 h0.length H2 r rows := ls_keep i.lr fun B blk n c e er => a3 B blk e fun n' c' el => i.ne B n' c' n c el er
  obtain ⟨r2, H3, e2, b1, b2, b3, b4⟩ := ls_grow (eby := 40) (row := row) lr2 hw (by decide) (by omega) (by omega) (Nat.le_trans i.len a2)
  have hrlt : ∀ B n c, r = .slice (some ⟨B, 0, none⟩) n c → B < H.length := fun B n c e => (ls_in i.lr e).2
  refine ⟨l2, r2, H2, H3, e1, e2, Nat.le_trans i.len (Nat.le_trans a2 b2), fun B blk e => ?_, ls_keep a1 fun B blk n c e el => b3 B blk e fun n' c' er => ?_, b1, fun B n c n' c' el er => ?_⟩
  · have hB := rd_lt e
    refine b3 B blk (a3 B blk (i.sub B blk e) fun n c el => ?_) fun n c er => ?_
    · have := (ls_in i.ll el).1; omega
    · have := (ls_in i.lr er).1; omega
  · have := hrlt B n' c' er
    have := a4 B n c el
    omega
  · have := b4 B n' c' er
    have := (ls_in a1 el).2
    omega
abbrev fr9 (s0 s1 : Value) (a2 a3 : Int) (l r : Value) (i : Int) : Fr := fr 119 [(0, s0), (1, s1), (2, (.int .i64 a2)), (3, (.int .i64 a3)), (8, (.bool false)), (9, l), (10, r), (11, (.int .i64 i))]
def inv9 (h0 : Heap) (s0 s1 : Value) (a2 a3 : Int) (bs ms : List Int) (m : Nat) (t : Fr) (H : Heap) : Prop :=
  ∃ (i : Nat) (l r : Value), i + m = min bs.length 30 ∧ t = fr9 s0 s1 a2 a3 l r i ∧ In9 h0 l r ((loTo bs ms i).map Lo.enc) H
theorem loop9 {h0 : Heap} {s0 s1 : Value} {a2 a3 : Int} {bs ms : List Int} (hb : RowsAt 1 h0 s0 (nums bs)) (hm : RowsAt 1 h0 s1 (nums ms)) :
    Wp (Plain.env tblC gK) (inL [2, 3, 8, 9, 10]) (.block 0 (.loop body9_0)) (fr9 s0 s1 a2 a3 (.slice none 0 0) (.slice none 0 0) 0) h0 fun e t H => ∃ l r, e = .normal ∧ t = fr 119 [(2, (.int .i64 a2)), (3, (.int .i64 a3)), (8, (.bool false)), (9, l), (10, r)] ∧ In9 h0 l r ((loTo bs ms (min bs.length 30)).map Lo.enc) H := by
  have nil9 : LsOf 5 h0.length h0 (.slice none 0 0) ((loTo bs ms 0).map Lo.enc) := ⟨by simp [loTo], .inl ⟨rfl, rfl⟩⟩
  refine Wp.block ((Wp.loop (K := fun e t H => ∃ l r, e = .exit 0 ∧ t = fr9 s0 s1 a2 a3 l r (min bs.length 30 : Nat) ∧ In9 h0 l r ((loTo bs ms (min bs.length 30)).map Lo.enc) H) (inv9 h0 s0 s1 a2 a3 bs ms) ?_ (min bs.length 30) _ _ ⟨0, _, _, by omega, rfl, ⟨Nat.le_refl _, fun _ _ e => e, nil9, nil9, fun B n c n' c' e => by cases e⟩⟩).ends fun e t H ⟨l, r, q1, q2, q3⟩ => ?_)
  rotate_right
  · subst q1 q2
    exact ⟨_, norm_ag (inL [2, 3, 8, 9, 10]) _, l, r, rfl, by kernel_rfl, q3⟩
  rintro m t H ⟨i, l, r, hi, ht, hI⟩
  subst ht
  have hbH := hb.more hI.sub
  have hmH := hm.more hI.sub
  have hlen0 : ∀ Γ, opA Γ (.len (.const s0)) [] H = some ((.int .i64 bs.length), H) := fun Γ => by have := hbH.len (Γ := Γ) (H := H); rw [nums, List.length_map] at this; exact this
  have hlen1 : ∀ Γ, opA Γ (.len (.const s1)) [] H = some ((.int .i64 ms.length), H) := fun Γ => by have := hmH.len (Γ := Γ) (H := H); rw [nums, List.length_map] at this; exact this
  cases m with
  | zero =>
    have hil : i = min bs.length 30 := by omega
    refine Wp.piece 100 (hn9x s0 s1 l r l r s0 s1 a2 a3 bs.length 0 i 0 0 H H H) ?_
    rw [tree9x]
    refine ⟨hlen0 _, by simp, ?_, outP_pk ⟨l, r, rfl, by rw [hil], by subst hil; exact hI⟩⟩
    by_cases hq : (i : Int) < bs.length
    · have : ¬ (i : Int) < 30 := by omega
      simp [hq, this] <;> omega
    · simp [hq] <;> omega
  | succ m =>
    have hlt : i < bs.length := by omega
    have hlt2 : i < 30 := by omega
    have hx : bs[i]? = some bs[i] := List.getElem?_eq_getElem hlt
    have hgd : bs.getD i 0 = bs[i] := by simp [List.getD, hx]
    obtain ⟨q0, p1, _, p3⟩ := hbH.at_ (i := i) (row := [.int .i64 (bs.getD i 0)]) (by rw [nums, List.getElem?_map, hx, hgd]; rfl)
    have w3 : IntKind.wrap .i64 ((i : Int) + 1) = ((i + 1 : Nat) : Int) := by rw [wrap_id (by omega) (by omega)]; rfl
    have hll : ((loTo bs ms i).map Lo.enc).length = i := by rw [List.length_map, loTo_len]
    obtain ⟨l2, r2, H2, H3, g1, g2, g3⟩ := hI.next (row := (loAt bs ms i).enc) rfl (by rw [hll]; omega)
    rw [← loTo_succ] at g3
    have c1 : (bif decide ((i : Int) < bs.length) then decide ((i : Int) < 30) else false) = true := by
      have h1 : (i : Int) < bs.length := by omega
      have h2 : (i : Int) < 30 := by omega
      simp [h1, h2] <;> omega
    by_cases hm2 : i < ms.length
    · have hy : ms[i]? = some ms[i] := List.getElem?_eq_getElem hm2
      have hgd2 : ms.getD i 0 = ms[i] := by simp [List.getD, hy]
      obtain ⟨q1, r1, _, r3⟩ := hmH.at_ (i := i) (row := [.int .i64 (ms.getD i 0)]) (by rw [nums, List.getElem?_map, hy, hgd2]; rfl)
      have hmA : mAt ms i = wn (ms.getD i 0) 0 12 := by simp only [mAt, hm2, if_true]
      refine Wp.piece 100 (hn9y s0 s1 l r l2 r2 q0 q1 a2 a3 bs.length ms.length i (bs.getD i 0) (ms.getD i 0) H H2 H3) ?_
      rw [tree9y, w3, ← hmA]
      exact ⟨hlen0 _, by simp, c1, hlen1 _, by simp <;> omega, r1 _ _, r3 _ _ rfl rfl, by decide, p1 _ _, p3 _ _ rfl rfl, by decide, rfl, g1 _, g2 _, outP_pk ⟨m, by omega, i + 1, l2, r2, by omega, rfl, g3⟩⟩
    · have hmA : mAt ms i = 0 := by simp only [mAt, hm2, if_false]
      have he : (loAt bs ms i).enc = [(.int .i64 0), (.int .i64 (wn (bs.getD i 0) 0 17179869184)), (.int .i64 0), (.int .i64 0), (.bool false)] := by simp only [loAt, Lo.enc, hmA]
      rw [he] at g1 g2
      refine Wp.piece 100 (hn9n s0 s1 l r l2 r2 q0 q0 a2 a3 bs.length ms.length i (bs.getD i 0) 0 H H2 H3) ?_
      rw [tree9n, w3]
      exact ⟨hlen0 _, by simp, c1, hlen1 _, by simp <;> omega, p1 _ _, p3 _ _ rfl rfl, by decide, rfl, g1 _, g2 _, outP_pk ⟨m, by omega, i + 1, l2, r2, by omega, rfl, g3⟩⟩
theorem start9 (s0 s1 : Value) (a2 a3 : Int) : (([s0, s1, .int .i64 a2, .int .i64 a3] : List Value) ++ List.replicate (il9.ntmps - ([s0, s1, .int .i64 a2, .int .i64 a3] : List Value).length) undef) = fr 119 [(0, s0), (1, s1), (2, (.int .i64 a2)), (3, (.int .i64 a3))] := by kernel_rfl
theorem buckets_law {H : Heap} {s0 s1 : Value} {bs ms : List Int} (hb : RowsAt 1 H s0 (nums bs)) (hm : RowsAt 1 H s1 (nums ms)) (a2 a3 : Int) : Sim Try.prog 9 [s0, s1, .int .i64 a2, .int .i64 a3] H fun v _ => v = .bool true := by
  refine wp_sim' mixed (Plain.ok okC gK_ok) (Plain.quiet gK_quiet) st9 ?_
  rw [start9, show il9.res = [.tmp 8] from rfl]
  obtain ⟨e, t, H1, ⟨l, r, k1, k2, k3⟩, w⟩ := (loop9 (a2 := a2) (a3 := a3) hb hm).exact
  subst k1 k2
  have hlen30 : (loTo bs ms (min bs.length 30)).length ≤ 30 := by rw [loTo_len]; omega
  have hmm := loTo_m bs ms (min bs.length 30)
  generalize loTo bs ms (min bs.length 30) = ls at *
  have rl := ls_rows k3.ll
  have rr := ls_rows k3.lr
  have hlen : ∀ Γ, opA Γ (.len (.const l)) [] H1 = some ((.int .i64 ls.length), H1) := fun Γ => by have := rl.len (Γ := Γ) (H := H1); rw [List.length_map] at this; exact this
  obtain ⟨c, hc⟩ : ∃ c : Nat, wn a2 0 ls.length = c := ⟨(wn a2 0 ls.length).toNat, by have := wn_lo (x := a2) (lo := 0) (hi := ls.length) (by omega); omega⟩
  have hcl : c ≤ ls.length := by have := wn_hi (x := a2) (lo := 0) (hi := ls.length) (by omega); omega
  have hpre : preWithin 0 ls.length = true := by simp [preWithin]; omega
  obtain ⟨lb, el, rb⟩ := ls_lo k3.ll (by decide) (c := c) (by rw [List.length_map]; exact hcl)
  obtain ⟨lc, eh, rc⟩ := ls_hi k3.ll (by decide) (c := c) (by rw [List.length_map]; exact hcl)
  rw [← List.map_take] at rb
  rw [← List.map_drop] at rc
  have n0 : ls.length ≤ 1099511627776 := by omega
  have n1 : (ls.take c).length ≤ 1099511627776 := by rw [List.length_take]; omega
  have n2 : (ls.drop c).length ≤ 1099511627776 := by rw [List.length_drop]; omega
  have sl : ∀ {H'}, (∀ B blk, rd H1 B = some blk → rd H' B = some blk) → _ := fun {H'} k => of_at (H := H') (rl.more k) n0
  have sb : ∀ {H'}, (∀ B blk, rd H1 B = some blk → rd H' B = some blk) → _ := fun {H'} k => of_at (H := H') (rb.more k) n1
  have sc : ∀ {H'}, (∀ B blk, rd H1 B = some blk → rd H' B = some blk) → _ := fun {H'} k => of_at (H := H') (rc.more k) n2
  have sr : ∀ {H'}, (∀ B blk, rd H1 B = some blk → rd H' B = some blk) → _ := fun {H'} k => ref_at (H := H') (rr.more k) n0 hmm
  have sq : ∀ {H'}, (∀ B blk, rd H1 B = some blk → rd H' B = some blk) → _ := fun {H'} k => bal_at (H := H') (rr.more k) n0
  have hq : buc ls = addBu (buc (ls.take c)) (buc (ls.drop c)) := by rw [← buc_app, List.take_append_drop]
  have hab := all_bal ls
  have qi : ∀ a b c d : Int, eqV (.agg ⟨[.int .i64 a, .int .i64 b, .int .i64 c, .int .i64 d]⟩) (.agg ⟨[.int .i64 a, .int .i64 b, .int .i64 c, .int .i64 d]⟩) = true := fun a b c d => by simp [eqV, eqAg, eqL, Am.eq0]
  generalize buc ls = X at *
  generalize buc (ls.take c) = Y at *
  generalize buc (ls.drop c) = Z at *
  by_cases hk0 : a3 ≤ 0
  · -- 0
    refine Wp.piece 200 (hn9k0 s0 s1 l r lb lc a2 a3 ls.length (bal ls) X.p X.q X.r X.s Y.p Y.q Y.r Y.s Z.p Z.q Z.r Z.s H H1) ?_
    rw [tree9k0, hc]
    refine ⟨w, ?_⟩
    refine ⟨hlen _, ?_⟩
    refine ⟨hpre, ?_⟩
    refine ⟨rfl, ?_⟩
    refine ⟨sl (fun B blk e => e), ?_⟩
    refine ⟨rfl, ?_⟩
    refine ⟨rfl, ?_⟩
    refine ⟨el _, ?_⟩
    refine ⟨sb (fun B blk e => e), ?_⟩
    refine ⟨rfl, ?_⟩
    refine ⟨rfl, ?_⟩
    refine ⟨eh _, ?_⟩
    refine ⟨sc (fun B blk e => e), ?_⟩
    refine ⟨rfl, ?_⟩
    refine ⟨rfl, ?_⟩
    refine ⟨rfl, ?_⟩
    refine ⟨st_ (rd_old (rd_old (rd_last (by simp)))) (by intro q; cases q) rfl rfl (by simp) rfl (by rw [set_old (by simp), set_old (by simp), set_last (by simp)]; rfl), ?_⟩
    refine ⟨st_ (rd_old (rd_last (by simp))) (by intro q; cases q) rfl rfl (by simp) rfl (by rw [set_old (by simp), set_last (by simp)]; rfl), ?_⟩
    refine ⟨st_ (rd_last (by simp)) (by intro q; cases q) rfl rfl (by simp) rfl (by rw [set_last (by simp)]; rfl), ?_⟩
    refine ⟨⟨⟨_, sl (fun B blk e => (rd_old e))⟩, qi _ _ _ _⟩, ?_⟩
    refine ⟨⟨⟨_, sl (fun B blk e => (rd_old (rd_old e)))⟩, qi _ _ _ _⟩, ?_⟩
    refine ⟨⟨⟨_, sl (fun B blk e => (rd_old (rd_old (rd_old e))))⟩, qi _ _ _ _⟩, ?_⟩
    refine ⟨⟨⟨_, sb (fun B blk e => (rd_old e))⟩, qi _ _ _ _⟩, ?_⟩
    refine ⟨⟨⟨_, sb (fun B blk e => (rd_old (rd_old e)))⟩, qi _ _ _ _⟩, ?_⟩
    refine ⟨⟨⟨_, sb (fun B blk e => (rd_old (rd_old (rd_old e))))⟩, qi _ _ _ _⟩, ?_⟩
    refine ⟨⟨⟨_, sc (fun B blk e => (rd_old e))⟩, qi _ _ _ _⟩, ?_⟩
    refine ⟨⟨⟨_, sc (fun B blk e => (rd_old (rd_old e)))⟩, qi _ _ _ _⟩, ?_⟩
    refine ⟨⟨⟨_, sc (fun B blk e => (rd_old (rd_old (rd_old e))))⟩, qi _ _ _ _⟩, ?_⟩
    refine ⟨rfl, ?_⟩
    refine ⟨ld1 (rd_old (rd_old (rd_last (by simp)))) rfl, ?_⟩
    refine ⟨ld1 (rd_old (rd_last (by simp))) rfl, ?_⟩
    refine ⟨ld1 (rd_last (by simp)) rfl, ?_⟩
    refine ⟨(by subst hq; simp [addBu]), ?_⟩
    refine ⟨(by simp; omega), ?_⟩
    refine ⟨ld1 (rd_old (rd_old (rd_last (by simp)))) rfl, ?_⟩
    refine ⟨rfl, ?_⟩
    refine ⟨ld1 (rd_old (rd_old (rd_last (by simp)))) rfl, ?_⟩
    refine ⟨ld1 (rd_old (rd_last (by simp))) rfl, ?_⟩
    refine ⟨ld1 (rd_last (by simp)) rfl, ?_⟩
    refine ⟨(by subst hq; simp [addBu]), ?_⟩
    refine ⟨(by simp; omega), ?_⟩
    refine ⟨ld1 (rd_old (rd_old (rd_last (by simp)))) rfl, ?_⟩
    refine ⟨rfl, ?_⟩
    refine ⟨ld1 (rd_old (rd_old (rd_last (by simp)))) rfl, ?_⟩
    refine ⟨ld1 (rd_old (rd_last (by simp))) rfl, ?_⟩
    refine ⟨ld1 (rd_last (by simp)) rfl, ?_⟩
    refine ⟨(by subst hq; simp [addBu]), ?_⟩
    refine ⟨(by simp; omega), ?_⟩
    refine ⟨ld1 (rd_old (rd_old (rd_last (by simp)))) rfl, ?_⟩
    refine ⟨rfl, ?_⟩
    refine ⟨ld1 (rd_old (rd_old (rd_last (by simp)))) rfl, ?_⟩
    refine ⟨ld1 (rd_old (rd_last (by simp))) rfl, ?_⟩
    refine ⟨ld1 (rd_last (by simp)) rfl, ?_⟩
    refine ⟨(by subst hq; simp [addBu]), ?_⟩
    refine ⟨(by simp; omega), ?_⟩
    refine ⟨ld1 (rd_old (rd_old (rd_last (by simp)))) rfl, ?_⟩
    refine ⟨rfl, ?_⟩
    refine ⟨ldn (rd_old (rd_old (rd_last (by simp)))) (by simp) rfl, ?_⟩
    refine ⟨sr (fun B blk e => (rd_old (rd_old (rd_old e)))), ?_⟩
    refine ⟨(by simp), ?_⟩
    refine ⟨ldn (rd_old (rd_old (rd_last (by simp)))) (by simp) rfl, ?_⟩
    refine ⟨rfl, ?_⟩
    refine ⟨(by simp [fromB, *]), ?_⟩
    refine ⟨ldn (rd_old (rd_old (rd_last (by simp)))) (by simp) rfl, ?_⟩
    refine ⟨rfl, ?_⟩
    refine ⟨sq (fun B blk e => (rd_old (rd_old (rd_old e)))), ?_⟩
    refine ⟨(by rw [hab]; simp), ?_⟩
    refine ⟨of_at (rows := []) (.inl ⟨rfl, rfl⟩) (by simp), ?_⟩
    refine ⟨rfl, ?_⟩
    exact outP_pk ⟨.inr rfl, _, rfl, rfl⟩
  by_cases hk1 : a3 = 1
  · -- 1
    refine Wp.piece 200 (hn9k1 s0 s1 l r lb lc a2 a3 ls.length (bal ls) X.p X.q X.r X.s Y.p Y.q Y.r Y.s Z.p Z.q Z.r Z.s H H1) ?_
    rw [tree9k1, hc]
    refine ⟨w, ?_⟩
    refine ⟨hlen _, ?_⟩
    refine ⟨hpre, ?_⟩
    refine ⟨rfl, ?_⟩
    refine ⟨sl (fun B blk e => e), ?_⟩
    refine ⟨rfl, ?_⟩
    refine ⟨rfl, ?_⟩
    refine ⟨el _, ?_⟩
    refine ⟨sb (fun B blk e => e), ?_⟩
    refine ⟨rfl, ?_⟩
    refine ⟨rfl, ?_⟩
    refine ⟨eh _, ?_⟩
    refine ⟨sc (fun B blk e => e), ?_⟩
    refine ⟨rfl, ?_⟩
    refine ⟨rfl, ?_⟩
    refine ⟨rfl, ?_⟩
    refine ⟨st_ (rd_old (rd_old (rd_last (by simp)))) (by intro q; cases q) rfl rfl (by simp) rfl (by rw [set_old (by simp), set_old (by simp), set_last (by simp)]; rfl), ?_⟩
    refine ⟨st_ (rd_old (rd_last (by simp))) (by intro q; cases q) rfl rfl (by simp) rfl (by rw [set_old (by simp), set_last (by simp)]; rfl), ?_⟩
    refine ⟨st_ (rd_last (by simp)) (by intro q; cases q) rfl rfl (by simp) rfl (by rw [set_last (by simp)]; rfl), ?_⟩
    refine ⟨⟨⟨_, sl (fun B blk e => (rd_old e))⟩, qi _ _ _ _⟩, ?_⟩
    refine ⟨⟨⟨_, sl (fun B blk e => (rd_old (rd_old e)))⟩, qi _ _ _ _⟩, ?_⟩
    refine ⟨⟨⟨_, sl (fun B blk e => (rd_old (rd_old (rd_old e))))⟩, qi _ _ _ _⟩, ?_⟩
    refine ⟨⟨⟨_, sb (fun B blk e => (rd_old e))⟩, qi _ _ _ _⟩, ?_⟩
    refine ⟨⟨⟨_, sb (fun B blk e => (rd_old (rd_old e)))⟩, qi _ _ _ _⟩, ?_⟩
    refine ⟨⟨⟨_, sb (fun B blk e => (rd_old (rd_old (rd_old e))))⟩, qi _ _ _ _⟩, ?_⟩
    refine ⟨⟨⟨_, sc (fun B blk e => (rd_old e))⟩, qi _ _ _ _⟩, ?_⟩
    refine ⟨⟨⟨_, sc (fun B blk e => (rd_old (rd_old e)))⟩, qi _ _ _ _⟩, ?_⟩
    refine ⟨⟨⟨_, sc (fun B blk e => (rd_old (rd_old (rd_old e))))⟩, qi _ _ _ _⟩, ?_⟩
    refine ⟨rfl, ?_⟩
    refine ⟨ld1 (rd_old (rd_old (rd_last (by simp)))) rfl, ?_⟩
    refine ⟨ld1 (rd_old (rd_last (by simp))) rfl, ?_⟩
    refine ⟨ld1 (rd_last (by simp)) rfl, ?_⟩
    refine ⟨(by subst hq; simp [addBu]), ?_⟩
    refine ⟨(by simp; omega), ?_⟩
    refine ⟨rfl, ?_⟩
    refine ⟨ld1 (rd_old (rd_old (rd_last (by simp)))) rfl, ?_⟩
    refine ⟨ld1 (rd_old (rd_last (by simp))) rfl, ?_⟩
    refine ⟨ld1 (rd_last (by simp)) rfl, ?_⟩
    refine ⟨(by subst hq; simp [addBu]), ?_⟩
    refine ⟨(by simp; omega), ?_⟩
    refine ⟨ld1 (rd_old (rd_old (rd_last (by simp)))) rfl, ?_⟩
    refine ⟨rfl, ?_⟩
    refine ⟨ld1 (rd_old (rd_old (rd_last (by simp)))) rfl, ?_⟩
    refine ⟨ld1 (rd_old (rd_last (by simp))) rfl, ?_⟩
    refine ⟨ld1 (rd_last (by simp)) rfl, ?_⟩
    refine ⟨(by subst hq; simp [addBu]), ?_⟩
    refine ⟨(by simp; omega), ?_⟩
    refine ⟨ld1 (rd_old (rd_old (rd_last (by simp)))) rfl, ?_⟩
    refine ⟨rfl, ?_⟩
    refine ⟨ld1 (rd_old (rd_old (rd_last (by simp)))) rfl, ?_⟩
    refine ⟨ld1 (rd_old (rd_last (by simp))) rfl, ?_⟩
    refine ⟨ld1 (rd_last (by simp)) rfl, ?_⟩
    refine ⟨(by subst hq; simp [addBu]), ?_⟩
    refine ⟨(by simp; omega), ?_⟩
    refine ⟨ld1 (rd_old (rd_old (rd_last (by simp)))) rfl, ?_⟩
    refine ⟨rfl, ?_⟩
    refine ⟨ldn (rd_old (rd_old (rd_last (by simp)))) (by simp) rfl, ?_⟩
    refine ⟨sr (fun B blk e => (rd_old (rd_old (rd_old e)))), ?_⟩
    refine ⟨(by simp), ?_⟩
    refine ⟨ldn (rd_old (rd_old (rd_last (by simp)))) (by simp) rfl, ?_⟩
    refine ⟨rfl, ?_⟩
    refine ⟨(by simp [fromB, *]), ?_⟩
    refine ⟨ldn (rd_old (rd_old (rd_last (by simp)))) (by simp) rfl, ?_⟩
    refine ⟨rfl, ?_⟩
    refine ⟨sq (fun B blk e => (rd_old (rd_old (rd_old e)))), ?_⟩
    refine ⟨(by rw [hab]; simp), ?_⟩
    refine ⟨of_at (rows := []) (.inl ⟨rfl, rfl⟩) (by simp), ?_⟩
    refine ⟨rfl, ?_⟩
    exact outP_pk ⟨.inr rfl, _, rfl, rfl⟩
  by_cases hk2 : a3 = 2
  · -- 2
    refine Wp.piece 200 (hn9k2 s0 s1 l r lb lc a2 a3 ls.length (bal ls) X.p X.q X.r X.s Y.p Y.q Y.r Y.s Z.p Z.q Z.r Z.s H H1) ?_
    rw [tree9k2, hc]
    refine ⟨w, ?_⟩
    refine ⟨hlen _, ?_⟩
    refine ⟨hpre, ?_⟩
    refine ⟨rfl, ?_⟩
    refine ⟨sl (fun B blk e => e), ?_⟩
    refine ⟨rfl, ?_⟩
    refine ⟨rfl, ?_⟩
    refine ⟨el _, ?_⟩
    refine ⟨sb (fun B blk e => e), ?_⟩
    refine ⟨rfl, ?_⟩
    refine ⟨rfl, ?_⟩
    refine ⟨eh _, ?_⟩
    refine ⟨sc (fun B blk e => e), ?_⟩
    refine ⟨rfl, ?_⟩
    refine ⟨rfl, ?_⟩
    refine ⟨rfl, ?_⟩
    refine ⟨st_ (rd_old (rd_old (rd_last (by simp)))) (by intro q; cases q) rfl rfl (by simp) rfl (by rw [set_old (by simp), set_old (by simp), set_last (by simp)]; rfl), ?_⟩
    refine ⟨st_ (rd_old (rd_last (by simp))) (by intro q; cases q) rfl rfl (by simp) rfl (by rw [set_old (by simp), set_last (by simp)]; rfl), ?_⟩
    refine ⟨st_ (rd_last (by simp)) (by intro q; cases q) rfl rfl (by simp) rfl (by rw [set_last (by simp)]; rfl), ?_⟩
    refine ⟨⟨⟨_, sl (fun B blk e => (rd_old e))⟩, qi _ _ _ _⟩, ?_⟩
    refine ⟨⟨⟨_, sl (fun B blk e => (rd_old (rd_old e)))⟩, qi _ _ _ _⟩, ?_⟩
    refine ⟨⟨⟨_, sl (fun B blk e => (rd_old (rd_old (rd_old e))))⟩, qi _ _ _ _⟩, ?_⟩
    refine ⟨⟨⟨_, sb (fun B blk e => (rd_old e))⟩, qi _ _ _ _⟩, ?_⟩
    refine ⟨⟨⟨_, sb (fun B blk e => (rd_old (rd_old e)))⟩, qi _ _ _ _⟩, ?_⟩
    refine ⟨⟨⟨_, sb (fun B blk e => (rd_old (rd_old (rd_old e))))⟩, qi _ _ _ _⟩, ?_⟩
    refine ⟨⟨⟨_, sc (fun B blk e => (rd_old e))⟩, qi _ _ _ _⟩, ?_⟩
    refine ⟨⟨⟨_, sc (fun B blk e => (rd_old (rd_old e)))⟩, qi _ _ _ _⟩, ?_⟩
    refine ⟨⟨⟨_, sc (fun B blk e => (rd_old (rd_old (rd_old e))))⟩, qi _ _ _ _⟩, ?_⟩
    refine ⟨rfl, ?_⟩
    refine ⟨ld1 (rd_old (rd_old (rd_last (by simp)))) rfl, ?_⟩
    refine ⟨ld1 (rd_old (rd_last (by simp))) rfl, ?_⟩
    refine ⟨ld1 (rd_last (by simp)) rfl, ?_⟩
    refine ⟨(by subst hq; simp [addBu]), ?_⟩
    refine ⟨(by simp; omega), ?_⟩
    refine ⟨rfl, ?_⟩
    refine ⟨ld1 (rd_old (rd_old (rd_last (by simp)))) rfl, ?_⟩
    refine ⟨ld1 (rd_old (rd_last (by simp))) rfl, ?_⟩
    refine ⟨ld1 (rd_last (by simp)) rfl, ?_⟩
    refine ⟨(by subst hq; simp [addBu]), ?_⟩
    refine ⟨(by simp; omega), ?_⟩
    refine ⟨rfl, ?_⟩
    refine ⟨ld1 (rd_old (rd_old (rd_last (by simp)))) rfl, ?_⟩
    refine ⟨ld1 (rd_old (rd_last (by simp))) rfl, ?_⟩
    refine ⟨ld1 (rd_last (by simp)) rfl, ?_⟩
    refine ⟨(by subst hq; simp [addBu]), ?_⟩
    refine ⟨(by simp; omega), ?_⟩
    refine ⟨ld1 (rd_old (rd_old (rd_last (by simp)))) rfl, ?_⟩
    refine ⟨rfl, ?_⟩
    refine ⟨ld1 (rd_old (rd_old (rd_last (by simp)))) rfl, ?_⟩
    refine ⟨ld1 (rd_old (rd_last (by simp))) rfl, ?_⟩
    refine ⟨ld1 (rd_last (by simp)) rfl, ?_⟩
    refine ⟨(by subst hq; simp [addBu]), ?_⟩
    refine ⟨(by simp; omega), ?_⟩
    refine ⟨ld1 (rd_old (rd_old (rd_last (by simp)))) rfl, ?_⟩
    refine ⟨rfl, ?_⟩
    refine ⟨ldn (rd_old (rd_old (rd_last (by simp)))) (by simp) rfl, ?_⟩
    refine ⟨sr (fun B blk e => (rd_old (rd_old (rd_old e)))), ?_⟩
    refine ⟨(by simp), ?_⟩
    refine ⟨ldn (rd_old (rd_old (rd_last (by simp)))) (by simp) rfl, ?_⟩
    refine ⟨rfl, ?_⟩
    refine ⟨(by simp [fromB, *]), ?_⟩
    refine ⟨ldn (rd_old (rd_old (rd_last (by simp)))) (by simp) rfl, ?_⟩
    refine ⟨rfl, ?_⟩
    refine ⟨sq (fun B blk e => (rd_old (rd_old (rd_old e)))), ?_⟩
    refine ⟨(by rw [hab]; simp), ?_⟩
    refine ⟨of_at (rows := []) (.inl ⟨rfl, rfl⟩) (by simp), ?_⟩
    refine ⟨rfl, ?_⟩
    exact outP_pk ⟨.inr rfl, _, rfl, rfl⟩
  by_cases hk3 : a3 = 3
  · -- 3
    refine Wp.piece 200 (hn9k3 s0 s1 l r lb lc a2 a3 ls.length (bal ls) X.p X.q X.r X.s Y.p Y.q Y.r Y.s Z.p Z.q Z.r Z.s H H1) ?_
    rw [tree9k3, hc]
    refine ⟨w, ?_⟩
    refine ⟨hlen _, ?_⟩
    refine ⟨hpre, ?_⟩
    refine ⟨rfl, ?_⟩
    refine ⟨sl (fun B blk e => e), ?_⟩
    refine ⟨rfl, ?_⟩
    refine ⟨rfl, ?_⟩
    refine ⟨el _, ?_⟩
    refine ⟨sb (fun B blk e => e), ?_⟩
    refine ⟨rfl, ?_⟩
    refine ⟨rfl, ?_⟩
    refine ⟨eh _, ?_⟩
    refine ⟨sc (fun B blk e => e), ?_⟩
    refine ⟨rfl, ?_⟩
    refine ⟨rfl, ?_⟩
    refine ⟨rfl, ?_⟩
    refine ⟨st_ (rd_old (rd_old (rd_last (by simp)))) (by intro q; cases q) rfl rfl (by simp) rfl (by rw [set_old (by simp), set_old (by simp), set_last (by simp)]; rfl), ?_⟩
    refine ⟨st_ (rd_old (rd_last (by simp))) (by intro q; cases q) rfl rfl (by simp) rfl (by rw [set_old (by simp), set_last (by simp)]; rfl), ?_⟩
    refine ⟨st_ (rd_last (by simp)) (by intro q; cases q) rfl rfl (by simp) rfl (by rw [set_last (by simp)]; rfl), ?_⟩
    refine ⟨⟨⟨_, sl (fun B blk e => (rd_old e))⟩, qi _ _ _ _⟩, ?_⟩
    refine ⟨⟨⟨_, sl (fun B blk e => (rd_old (rd_old e)))⟩, qi _ _ _ _⟩, ?_⟩
    refine ⟨⟨⟨_, sl (fun B blk e => (rd_old (rd_old (rd_old e))))⟩, qi _ _ _ _⟩, ?_⟩
    refine ⟨⟨⟨_, sb (fun B blk e => (rd_old e))⟩, qi _ _ _ _⟩, ?_⟩
    refine ⟨⟨⟨_, sb (fun B blk e => (rd_old (rd_old e)))⟩, qi _ _ _ _⟩, ?_⟩
    refine ⟨⟨⟨_, sb (fun B blk e => (rd_old (rd_old (rd_old e))))⟩, qi _ _ _ _⟩, ?_⟩
    refine ⟨⟨⟨_, sc (fun B blk e => (rd_old e))⟩, qi _ _ _ _⟩, ?_⟩
    refine ⟨⟨⟨_, sc (fun B blk e => (rd_old (rd_old e)))⟩, qi _ _ _ _⟩, ?_⟩
    refine ⟨⟨⟨_, sc (fun B blk e => (rd_old (rd_old (rd_old e))))⟩, qi _ _ _ _⟩, ?_⟩
    refine ⟨rfl, ?_⟩
    refine ⟨ld1 (rd_old (rd_old (rd_last (by simp)))) rfl, ?_⟩
    refine ⟨ld1 (rd_old (rd_last (by simp))) rfl, ?_⟩
    refine ⟨ld1 (rd_last (by simp)) rfl, ?_⟩
    refine ⟨(by subst hq; simp [addBu]), ?_⟩
    refine ⟨(by simp; omega), ?_⟩
    refine ⟨rfl, ?_⟩
    refine ⟨ld1 (rd_old (rd_old (rd_last (by simp)))) rfl, ?_⟩
    refine ⟨ld1 (rd_old (rd_last (by simp))) rfl, ?_⟩
    refine ⟨ld1 (rd_last (by simp)) rfl, ?_⟩
    refine ⟨(by subst hq; simp [addBu]), ?_⟩
    refine ⟨(by simp; omega), ?_⟩
    refine ⟨rfl, ?_⟩
    refine ⟨ld1 (rd_old (rd_old (rd_last (by simp)))) rfl, ?_⟩
    refine ⟨ld1 (rd_old (rd_last (by simp))) rfl, ?_⟩
    refine ⟨ld1 (rd_last (by simp)) rfl, ?_⟩
    refine ⟨(by subst hq; simp [addBu]), ?_⟩
    refine ⟨(by simp; omega), ?_⟩
    refine ⟨rfl, ?_⟩
    refine ⟨ld1 (rd_old (rd_old (rd_last (by simp)))) rfl, ?_⟩
    refine ⟨ld1 (rd_old (rd_last (by simp))) rfl, ?_⟩
    refine ⟨ld1 (rd_last (by simp)) rfl, ?_⟩
    refine ⟨(by subst hq; simp [addBu]), ?_⟩
    refine ⟨(by simp; omega), ?_⟩
    refine ⟨ld1 (rd_old (rd_old (rd_last (by simp)))) rfl, ?_⟩
    refine ⟨rfl, ?_⟩
    refine ⟨ldn (rd_old (rd_old (rd_last (by simp)))) (by simp) rfl, ?_⟩
    refine ⟨sr (fun B blk e => (rd_old (rd_old (rd_old e)))), ?_⟩
    refine ⟨(by simp), ?_⟩
    refine ⟨ldn (rd_old (rd_old (rd_last (by simp)))) (by simp) rfl, ?_⟩
    refine ⟨rfl, ?_⟩
    refine ⟨(by simp [fromB, *]), ?_⟩
    refine ⟨ldn (rd_old (rd_old (rd_last (by simp)))) (by simp) rfl, ?_⟩
    refine ⟨rfl, ?_⟩
    refine ⟨sq (fun B blk e => (rd_old (rd_old (rd_old e)))), ?_⟩
    refine ⟨(by rw [hab]; simp), ?_⟩
    refine ⟨of_at (rows := []) (.inl ⟨rfl, rfl⟩) (by simp), ?_⟩
    refine ⟨rfl, ?_⟩
    exact outP_pk ⟨.inr rfl, _, rfl, rfl⟩
  · -- 4
    refine Wp.piece 200 (hn9k4 s0 s1 l r lb lc a2 a3 ls.length (bal ls) X.p X.q X.r X.s Y.p Y.q Y.r Y.s Z.p Z.q Z.r Z.s H H1) ?_
    rw [tree9k4, hc]
    refine ⟨w, ?_⟩
    refine ⟨hlen _, ?_⟩
    refine ⟨hpre, ?_⟩
    refine ⟨rfl, ?_⟩
    refine ⟨sl (fun B blk e => e), ?_⟩
    refine ⟨rfl, ?_⟩
    refine ⟨rfl, ?_⟩
    refine ⟨el _, ?_⟩
    refine ⟨sb (fun B blk e => e), ?_⟩
    refine ⟨rfl, ?_⟩
    refine ⟨rfl, ?_⟩
    refine ⟨eh _, ?_⟩
    refine ⟨sc (fun B blk e => e), ?_⟩
    refine ⟨rfl, ?_⟩
    refine ⟨rfl, ?_⟩
    refine ⟨rfl, ?_⟩
    refine ⟨st_ (rd_old (rd_old (rd_last (by simp)))) (by intro q; cases q) rfl rfl (by simp) rfl (by rw [set_old (by simp), set_old (by simp), set_last (by simp)]; rfl), ?_⟩
    refine ⟨st_ (rd_old (rd_last (by simp))) (by intro q; cases q) rfl rfl (by simp) rfl (by rw [set_old (by simp), set_last (by simp)]; rfl), ?_⟩
    refine ⟨st_ (rd_last (by simp)) (by intro q; cases q) rfl rfl (by simp) rfl (by rw [set_last (by simp)]; rfl), ?_⟩
    refine ⟨⟨⟨_, sl (fun B blk e => (rd_old e))⟩, qi _ _ _ _⟩, ?_⟩
    refine ⟨⟨⟨_, sl (fun B blk e => (rd_old (rd_old e)))⟩, qi _ _ _ _⟩, ?_⟩
    refine ⟨⟨⟨_, sl (fun B blk e => (rd_old (rd_old (rd_old e))))⟩, qi _ _ _ _⟩, ?_⟩
    refine ⟨⟨⟨_, sb (fun B blk e => (rd_old e))⟩, qi _ _ _ _⟩, ?_⟩
    refine ⟨⟨⟨_, sb (fun B blk e => (rd_old (rd_old e)))⟩, qi _ _ _ _⟩, ?_⟩
    refine ⟨⟨⟨_, sb (fun B blk e => (rd_old (rd_old (rd_old e))))⟩, qi _ _ _ _⟩, ?_⟩
    refine ⟨⟨⟨_, sc (fun B blk e => (rd_old e))⟩, qi _ _ _ _⟩, ?_⟩
    refine ⟨⟨⟨_, sc (fun B blk e => (rd_old (rd_old e)))⟩, qi _ _ _ _⟩, ?_⟩
    refine ⟨⟨⟨_, sc (fun B blk e => (rd_old (rd_old (rd_old e))))⟩, qi _ _ _ _⟩, ?_⟩
    refine ⟨rfl, ?_⟩
    refine ⟨ld1 (rd_old (rd_old (rd_last (by simp)))) rfl, ?_⟩
    refine ⟨ld1 (rd_old (rd_last (by simp))) rfl, ?_⟩
    refine ⟨ld1 (rd_last (by simp)) rfl, ?_⟩
    refine ⟨(by subst hq; simp [addBu]), ?_⟩
    refine ⟨(by simp; omega), ?_⟩
    refine ⟨rfl, ?_⟩
    refine ⟨ld1 (rd_old (rd_old (rd_last (by simp)))) rfl, ?_⟩
    refine ⟨ld1 (rd_old (rd_last (by simp))) rfl, ?_⟩
    refine ⟨ld1 (rd_last (by simp)) rfl, ?_⟩
    refine ⟨(by subst hq; simp [addBu]), ?_⟩
    refine ⟨(by simp; omega), ?_⟩
    refine ⟨rfl, ?_⟩
    refine ⟨ld1 (rd_old (rd_old (rd_last (by simp)))) rfl, ?_⟩
    refine ⟨ld1 (rd_old (rd_last (by simp))) rfl, ?_⟩
    refine ⟨ld1 (rd_last (by simp)) rfl, ?_⟩
    refine ⟨(by subst hq; simp [addBu]), ?_⟩
    refine ⟨(by simp; omega), ?_⟩
    refine ⟨rfl, ?_⟩
    refine ⟨ld1 (rd_old (rd_old (rd_last (by simp)))) rfl, ?_⟩
    refine ⟨ld1 (rd_old (rd_last (by simp))) rfl, ?_⟩
    refine ⟨ld1 (rd_last (by simp)) rfl, ?_⟩
    refine ⟨(by subst hq; simp [addBu]), ?_⟩
    refine ⟨(by simp; omega), ?_⟩
    refine ⟨rfl, ?_⟩
    refine ⟨ldn (rd_old (rd_old (rd_last (by simp)))) (by simp) rfl, ?_⟩
    refine ⟨sr (fun B blk e => (rd_old (rd_old (rd_old e)))), ?_⟩
    refine ⟨(by simp), ?_⟩
    refine ⟨ldn (rd_old (rd_old (rd_last (by simp)))) (by simp) rfl, ?_⟩
    refine ⟨rfl, ?_⟩
    refine ⟨(by simp [fromB, *]), ?_⟩
    refine ⟨ldn (rd_old (rd_old (rd_last (by simp)))) (by simp) rfl, ?_⟩
    refine ⟨rfl, ?_⟩
    refine ⟨sq (fun B blk e => (rd_old (rd_old (rd_old e)))), ?_⟩
    refine ⟨(by rw [hab]; simp), ?_⟩
    refine ⟨of_at (rows := []) (.inl ⟨rfl, rfl⟩) (by simp), ?_⟩
    refine ⟨rfl, ?_⟩
    exact outP_pk ⟨.inr rfl, _, rfl, rfl⟩
end Go.Proofs.Ytjnppjipoibbeaa.Buck
