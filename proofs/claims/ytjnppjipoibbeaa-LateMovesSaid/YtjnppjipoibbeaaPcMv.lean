/-
  The law LateMoves, in plain Lean.
-/
import Derived.Test.YtjnppjipoibbeaaPcBl
import Derived.Test.YtjnppjipoibbeaaPcTurn
namespace Go.Proofs.Ytjnppjipoibbeaa.Buck
open Go.Am
open Tape (pl wrap_l wrap_r wrap_def mixed nums nums_inj flat_at setR_left setR_right)
set_option linter.all false
set_option maxRecDepth 100000
/-! ### A copy; one thing of it turned -/
theorem ls_copy {w eby n0 : Nat} {H HH : Heap} {l : Value} {rows : List (List Value)} (a : LsOf w n0 H l rows) (hne : rows ≠ []) (hp : 0 < w) (hb : rows.length * eby ≤ 1099511627776) (hc : rows.length ≤ 1099511627776) (k : ∀ B blk, rd H B = some blk → rd HH B = some blk) (Γ : Env) :
    opA Γ (.append w eby (.const (.slice (some ⟨HH.length, 0, none⟩) 0 0)) (.const l)) [] (HH ++ [some (Blk.mk .fix [])]) = some (.slice (some ⟨(HH ++ [some (Blk.mk .fix [])]).length, 0, none⟩) rows.length rows.length, (HH ++ [some (Blk.mk .fix [])]) ++ [some ⟨.grown w, rows.flatten⟩]) := by
  obtain ⟨a1, ⟨q, _⟩ | ⟨B, rfl, _, _, b4⟩⟩ := a
  · exact absurd q hne
  · have hfl := flat_len a1
    have hpos : 0 < rows.length := List.length_pos_iff.2 hne
    have src : srcA (HH ++ [some (Blk.mk .fix [])]) w (.slice (some ⟨B, 0, none⟩) rows.length rows.length) = some (rows.length, rows.flatten) := by
      simp only [srcA, readN, rd_old (k _ _ b4), Nat.zero_add, hfl, Nat.le_refl, if_true, List.drop_zero]
      rw [← hfl, List.take_length]
    have hread : readN (HH ++ [some (Blk.mk .fix [])]) ⟨HH.length, 0, none⟩ (0 * w) = some [] := by
      simp only [readN, rd_last (H := HH) (b := Blk.mk .fix []) rfl, Nat.zero_mul]
      rfl
    have hend : isEnd (HH ++ [some (Blk.mk .fix [])]) w ⟨HH.length, 0, none⟩ 0 = some false := by
      simp only [isEnd, rd_last (H := HH) (b := Blk.mk .fix []) rfl]
    simp only [opA, ev, appA, src]
    rw [if_neg (by omega)]
    have h1 : ¬ (rows.length ≤ 0) := by omega
    simp only [Nat.zero_add]
    rw [if_neg h1, if_pos ⟨hp, hb, hc⟩]
    simp only [hread, hend, List.nil_append]
    rfl
theorem set_flat5 : ∀ (ls : List Lo) (i : Nat) (x x' : Lo) (f : Nat) (v : Value), ls[i]? = some x → f < 5 → setR x.enc f [v] = x'.enc → setR (ls.map Lo.enc).flatten (i * 5 + f) [v] = ((ls.set i x').map Lo.enc).flatten
  | [], i, x, x', f, v, h, _, _ => by simp at h
  | a :: l, 0, x, x', f, v, h, hf, he => by
    simp at h; subst h
    rw [List.map_cons, List.flatten_cons, Nat.zero_mul, Nat.zero_add, setR_left (by exact hf), he]
    rfl
  | a :: l, i + 1, x, x', f, v, h, hf, he => by
    have := set_flat5 l i x x' f v (by simpa using h) hf he
    rw [List.map_cons, List.flatten_cons, show (i + 1) * 5 + f = a.enc.length + (i * 5 + f) by (show (i + 1) * 5 + f = 5 + (i * 5 + f)); omega, setR_right, this]
    rfl
theorem w5 {ls : List Lo} : ∀ r ∈ ls.map Lo.enc, r.length = 5 := fun r hr => by obtain ⟨x, _, rfl⟩ := List.mem_map.1 hr; rfl
theorem get5 {ls : List Lo} {i : Nat} {x : Lo} {f : Nat} {v : Value} (hx : ls[i]? = some x) (hf : f < 5) (hv : x.enc[f]? = some v) : (ls.map Lo.enc).flatten[i * 5 + f]? = some v := by
  have := (flat_at (w := 5) _ w5 i x.enc (by rw [List.getElem?_map, hx]; rfl)).2
  have h2 := congrArg (fun l : List Value => l[f]?) this
  simp only [List.getElem?_take, List.getElem?_drop, hf, if_true] at h2
  rw [h2, hv]
structure Cp5 (H : Heap) (B : Nat) (ls : List Lo) : Prop where
  r : rd H B = some ⟨.grown 5, (ls.map Lo.enc).flatten⟩
theorem Cp5.rows {H : Heap} {B : Nat} {ls : List Lo} (c : Cp5 H B ls) {n : Nat} (hn : n = ls.length) : RowsAt 5 H (.slice (some ⟨B, 0, none⟩) n n) (ls.map Lo.enc) := by
  subst hn
  exact .inr ⟨B, 0, ls.length, ⟨.grown 5, (ls.map Lo.enc).flatten⟩, by rw [List.length_map], c.r, fun i r e => by
    rw [Nat.zero_add]
    exact flat_at (w := 5) _ w5 i r e⟩
theorem at5 {B n i : Nat} (hi : i < n) (Γ : Env) (H' : Heap) : opA Γ (.iadr 5 none (.const (.slice (some ⟨B, 0, none⟩) n n)) (.const (.int .i64 i))) [] H' = some ((.pointer (some ⟨B, (i * 5 + 0), none⟩)), H') := by
  have h1 : (0 : Int) ≤ i ∧ (i : Int) < n := ⟨by omega, by omega⟩
  simp only [opA, pureA, ev, h1, and_self, if_true, Int.toNat_natCast, Nat.zero_add, Nat.add_zero]
theorem Cp5.store {H : Heap} {B : Nat} {ls : List Lo} (c : Cp5 H B ls) {i : Nat} {x x' : Lo} {f : Nat} {z : Int} (hx : ls[i]? = some x) (hf : f < 5) (he : setR x.enc f [.int .i64 z] = x'.enc) :
    ∃ H', (∀ Γ, opA Γ (.store (.const (.pointer (some ⟨B, (i * 5 + f), none⟩))) (.const (.int .i64 z)) 1) [] H = some ((.tuple ⟨[]⟩), H')) ∧ Cp5 H' B (ls.set i x') ∧ ∀ B' blk, B' ≠ B → rd H B' = some blk → rd H' B' = some blk := by
  have hlt := (List.getElem?_eq_some_iff.1 hx).1
  have hfl : (ls.map Lo.enc).flatten.length = ls.length * 5 := by rw [flat_len (w := 5) w5, List.length_map]
  exact ⟨H.set B (some ⟨.grown 5, ((ls.set i x').map Lo.enc).flatten⟩), fun Γ => st_ c.r (by intro q; cases q) rfl rfl (by rw [hfl]; omega) (set_flat5 ls i x x' f _ hx hf he) rfl, ⟨rd_set (rd_lt c.r)⟩, fun B' blk hB e => by rw [rd_set_ne (Ne.symm hB)]; exact e⟩
/-! ### Sums without wraps -/
structure Ok (b : Int) (t : Bu) : Prop where
  p0 : 0 ≤ t.p
  p1 : t.p ≤ b
  q0 : 0 ≤ t.q
  q1 : t.q ≤ b
  r0 : 0 ≤ t.r
  r1 : t.r ≤ b
  s0 : 0 ≤ t.s
  s1 : t.s ≤ b
theorem ok_take (l : List Lo) (h : ∀ x ∈ l, 0 ≤ x.b ∧ x.b ≤ 1073741824) : ∀ n : Nat, n ≤ l.length → n ≤ 100 → Ok (n * 1073741824) (buc (l.take n))
  | 0, _, _ => by rw [List.take_zero]; exact ⟨by decide, by decide, by decide, by decide, by decide, by decide, by decide, by decide⟩
  | n + 1, hn, hm => by
    have ih := ok_take l h n (by omega) (by omega)
    have hx : l[n]? = some l[n] := List.getElem?_eq_getElem (by omega)
    have hb := h l[n] (List.getElem_mem (by omega))
    rw [buc_take hx]
    generalize l[n] = x at *
    generalize buc (l.take n) = t at *
    obtain ⟨a, b, c, d, e, f, g, i⟩ := ih
    unfold addB
    split
    all_goals
      constructor <;> simp only <;> first
        | omega
        | (rw [wrap_id (by omega) (by omega)]; omega)
theorem ok_buc (l : List Lo) (h : ∀ x ∈ l, 0 ≤ x.b ∧ x.b ≤ 1073741824) (hn : l.length ≤ 100) : Ok 107374182400 (buc l) := by
  have := ok_take l h l.length (Nat.le_refl _) hn
  rw [List.take_length] at this
  obtain ⟨a, b, c, d, e, f, g, i⟩ := this
  exact ⟨a, by omega, c, by omega, e, by omega, g, by omega⟩
theorem buc_split (A B : List Lo) (x : Lo) (hA : Ok 107374182400 (buc A)) (hB : Ok 107374182400 (buc B)) (h0 : 0 ≤ x.b) (h1 : x.b ≤ 1073741824) :
    buc (A ++ x :: B) = ⟨(buc A).p + (buc B).p + (if bkN x.m = 0 then x.b else 0), (buc A).q + (buc B).q + (if bkN x.m = 1 then x.b else 0), (buc A).r + (buc B).r + (if bkN x.m = 2 then x.b else 0), (buc A).s + (buc B).s + (if bkN x.m = 3 then x.b else 0)⟩ := by
  rw [buc_app, show x :: B = [x] ++ B from rfl, buc_app]
  show addBu (buc A) (addBu (addB zeroB (bkN x.m) x.b) (buc B)) = _
  have hk : bkN x.m = 0 ∨ bkN x.m = 1 ∨ bkN x.m = 2 ∨ bkN x.m = 3 := by
    unfold bkN; split
    · exact .inl rfl
    · split
      · exact .inr (.inl rfl)
      · split
        · exact .inr (.inr (.inl rfl))
        · exact .inr (.inr (.inr rfl))
  generalize buc A = s at *
  generalize buc B = t at *
  obtain ⟨a, b, c, d, e, f, g, i⟩ := hA
  obtain ⟨a', b', c', d', e', f', g', i'⟩ := hB
  rcases hk with hk | hk | hk | hk
  all_goals
    rw [hk]
    simp only [addBu, addB, zeroB, wrap_l, wrap_r, Bu.mk.injEq]
    refine ⟨?_, ?_, ?_, ?_⟩
  all_goals rw [wrap_id (by omega) (by omega)]
  all_goals simp
  all_goals omega
theorem bk_next (m : Int) : (bkN (m + 1) = bkN m ∨ bkN (m + 1) = bkN m + 1) ∧ bkN (m + 1) ≤ 3 := by
  unfold bkN
  repeat' split
  all_goals omega
theorem from_ex (t : Bu) (h : Ok 1073741824000 t) : fromB t 0 = t.p + t.q + t.r + t.s ∧ fromB t 1 = t.q + t.r + t.s ∧ fromB t 2 = t.r + t.s ∧ fromB t 3 = t.s ∧ fromB t 4 = 0 ∧ fromB t 5 = 0 ∧ fromB t (-1) = t.p + t.q + t.r + t.s := by
  obtain ⟨a, b, c, d, e, f, g, i⟩ := h
  have w3 : IntKind.wrap .i64 (IntKind.wrap .i64 (IntKind.wrap .i64 (IntKind.wrap .i64 (0 + t.p) + t.q) + t.r) + t.s) = t.p + t.q + t.r + t.s := by
    simp only [wrap_l]; rw [wrap_id (by omega) (by omega)]; omega
  refine ⟨?_, ?_, ?_, ?_, ?_, ?_, ?_⟩
  · simpa [fromB] using w3
  · simp only [fromB]; simp only [wrap_l]; rw [wrap_id (n := 0 + t.q + t.r + t.s) (by omega) (by omega)]; simp
  · simp only [fromB]; simp only [wrap_l]; rw [wrap_id (n := 0 + t.r + t.s) (by omega) (by omega)]; simp
  · simp only [fromB]; rw [wrap_id (n := 0 + t.s) (by omega) (by omega)]; simp
  · simp [fromB]
  · simp [fromB]
  · simpa [fromB] using w3
/-! ### The list -/
def mAt2 (ms : List Int) (i : Nat) : Int := if i < ms.length then wn (ms.getD i 0) 0 11 else 0
def loAt2 (bs ms : List Int) (i : Nat) : Lo := ⟨0, wn (bs.getD i 0) 0 1073741824, 0, mAt2 ms i, false⟩
def loTo2 (bs ms : List Int) (n : Nat) : List Lo := (List.range n).map (loAt2 bs ms)
theorem loTo2_succ (bs ms : List Int) (n : Nat) : (loTo2 bs ms (n + 1)).map Lo.enc = (loTo2 bs ms n).map Lo.enc ++ [(loAt2 bs ms n).enc] := by
  simp [loTo2, List.range_succ]
theorem loTo2_len (bs ms : List Int) (n : Nat) : (loTo2 bs ms n).length = n := by simp [loTo2]
theorem loTo2_in (bs ms : List Int) (n : Nat) : ∀ x ∈ loTo2 bs ms n, (0 ≤ x.b ∧ x.b ≤ 1073741824) ∧ 0 ≤ x.m ∧ x.m ≤ 11 := by
  intro x hx
  simp only [loTo2, List.mem_map] at hx
  obtain ⟨i, _, rfl⟩ := hx
  refine ⟨⟨wn_lo (by omega), wn_hi (by omega)⟩, ?_⟩
  show 0 ≤ mAt2 ms i ∧ mAt2 ms i ≤ 11
  unfold mAt2
  split
  · exact ⟨wn_lo (by omega), wn_hi (by omega)⟩
  · omega
/-- cascade/cascadelaw10.LateMoves -/
def il10 : FnIL := ⟨160, [.tmp 6],
  .seq (.reg [
     ⟨(some 6), none, .mov (.const (.bool false))⟩])
  (.seq (.reg [
     ⟨(some 7), none, .mov (.const (.slice none 0 0))⟩])
  (.seq (.seq (.reg [
      ⟨(some 8), none, .mov (.const (.int .i64 0))⟩])
   (.block 0
     (.loop
       (.seq (.seq (.reg [
           ⟨(some 19), none, .mov (.tmp 8)⟩,
           ⟨(some 20), none, .mov (.tmp 0)⟩,
           ⟨(some 21), none, .len (.tmp 20)⟩,
           ⟨(some 22), none, .bin .lss (.tmp 19) (.tmp 21)⟩,
           ⟨(some 23), none, .mov (.tmp 22)⟩,
           ⟨(some 24), (some (23, true)), .mov (.tmp 8)⟩,
           ⟨(some 25), (some (23, true)), .bin .lss (.tmp 24) (.const (.int .i64 20))⟩,
           ⟨(some 26), none, .pick (.tmp 23) (.tmp 25) (.const (.bool false))⟩])
        (.ite (.tmp 26)
          (.skip)
          (.exit 0)))
       (.seq (.block 1
          (.seq (.reg [
             ⟨(some 9), none, .mov (.const (.int .i64 0))⟩])
          (.seq (.seq (.reg [
              ⟨(some 29), none, .mov (.tmp 8)⟩,
              ⟨(some 30), none, .mov (.tmp 1)⟩,
              ⟨(some 31), none, .len (.tmp 30)⟩,
              ⟨(some 32), none, .bin .lss (.tmp 29) (.tmp 31)⟩])
           (.ite (.tmp 32)
             (.reg [
               ⟨(some 33), none, .mov (.tmp 1)⟩,
               ⟨(some 34), none, .mov (.tmp 8)⟩,
               ⟨(some 35), none, .iadr 1 none (.tmp 33) (.tmp 34)⟩,
               ⟨(some 36), none, .load (.tmp 35) none⟩,
               ⟨(some 37), none, .call 19 [(.tmp 36), (.const (.int .i64 0)), (.const (.int .i64 11))]⟩,
               ⟨(some 9), none, .mov (.tmp 37)⟩])
             (.skip)))
          (.reg [
            ⟨(some 38), none, .mov (.tmp 7)⟩,
            ⟨(some 39), none, .mov (.tmp 0)⟩,
            ⟨(some 40), none, .mov (.tmp 8)⟩,
            ⟨(some 41), none, .iadr 1 none (.tmp 39) (.tmp 40)⟩,
            ⟨(some 42), none, .load (.tmp 41) none⟩,
            ⟨(some 43), none, .call 19 [(.tmp 42), (.const (.int .i64 0)), (.const (.int .i64 1073741824))]⟩,
            ⟨(some 44), none, .mov (.tmp 9)⟩,
            ⟨(some 45), none, .call 25 [(.tmp 43), (.tmp 44)]⟩,
            ⟨(some 46), none, .mkrow [(.int .i64 0), (.int .i64 0), (.int .i64 0), (.int .i64 0), (.bool false)] 1 [(0, 5, (.tmp 45))]⟩,
            ⟨(some 47), none, .append 5 40 (.tmp 38) (.tmp 46)⟩,
            ⟨(some 7), none, .mov (.tmp 47)⟩]))))
       (.reg [
         ⟨(some 27), none, .mov (.tmp 8)⟩,
         ⟨(some 28), none, .bin .add (.tmp 27) (.const (.int .i64 1))⟩,
         ⟨(some 8), none, .mov (.tmp 28)⟩]))))))
  (.seq (.reg [
     ⟨(some 48), none, .mov (.tmp 7)⟩,
     ⟨(some 49), none, .call 24 [(.tmp 48)]⟩,
     ⟨(some 10), none, .alloc [(.int .i64 0), (.int .i64 0), (.int .i64 0), (.int .i64 0)]⟩,
     ⟨none, none, .store (.tmp 10) (.tmp 49) 4⟩])
  (.seq (.seq (.reg [
      ⟨(some 50), none, .mov (.tmp 7)⟩,
      ⟨(some 51), none, .len (.tmp 50)⟩,
      ⟨(some 52), none, .bin .gtr (.tmp 51) (.const (.int .i64 0))⟩])
   (.ite (.tmp 52)
     (.seq (.reg [
        ⟨(some 53), none, .mov (.tmp 2)⟩,
        ⟨(some 54), none, .mov (.tmp 7)⟩,
        ⟨(some 55), none, .len (.tmp 54)⟩,
        ⟨(some 56), none, .bin .sub (.tmp 55) (.const (.int .i64 1))⟩,
        ⟨(some 57), none, .call 19 [(.tmp 53), (.const (.int .i64 0)), (.tmp 56)]⟩,
        ⟨(some 11), none, .mov (.tmp 57)⟩])
     (.seq (.reg [
        ⟨(some 58), none, .mkrow [] 0 []⟩,
        ⟨(some 59), none, .mov (.tmp 7)⟩,
        ⟨(some 60), none, .append 5 40 (.tmp 58) (.tmp 59)⟩,
        ⟨(some 12), none, .mov (.tmp 60)⟩])
     (.seq (.reg [
        ⟨(some 61), none, .mov (.tmp 12)⟩,
        ⟨(some 62), none, .mov (.tmp 11)⟩,
        ⟨(some 63), none, .iadr 5 none (.tmp 61) (.tmp 62)⟩,
        ⟨(some 64), none, .fadr 3 (.tmp 63)⟩,
        ⟨(some 65), none, .load (.tmp 64) none⟩,
        ⟨(some 66), none, .bin .add (.tmp 65) (.const (.int .i64 1))⟩,
        ⟨(some 67), none, .iadr 5 none (.tmp 61) (.tmp 62)⟩,
        ⟨(some 68), none, .fadr 3 (.tmp 67)⟩,
        ⟨none, none, .store (.tmp 68) (.tmp 66) 1⟩])
     (.seq (.reg [
        ⟨(some 69), none, .mov (.tmp 12)⟩,
        ⟨(some 70), none, .call 24 [(.tmp 69)]⟩,
        ⟨(some 13), none, .alloc [(.int .i64 0), (.int .i64 0), (.int .i64 0), (.int .i64 0)]⟩,
        ⟨none, none, .store (.tmp 13) (.tmp 70) 4⟩])
     (.seq (.reg [
        ⟨(some 14), none, .mov (.const (.int .i64 0))⟩])
     (.seq (.seq (.reg [
         ⟨(some 71), none, .mov (.const (.int .i64 0))⟩])
      (.block 2
        (.loop
          (.seq (.reg [
             ⟨(some 72), none, .bin .lss (.tmp 71) (.const (.int .i64 4))⟩])
          (.seq (.ite (.tmp 72)
             (.skip)
             (.exit 2))
          (.seq (.block 3
             (.seq (.reg [
                ⟨(some 73), none, .mov (.tmp 71)⟩,
                ⟨(some 15), none, .mov (.tmp 73)⟩])
             (.seq (.dreg [
                ⟨(some 74), none, .mov (.tmp 15)⟩,
                ⟨(some 75), none, .iadr 1 (some 4) (.tmp 13) (.tmp 74)⟩,
                ⟨(some 76), none, .load (.tmp 75) none⟩,
                ⟨(some 77), none, .mov (.tmp 15)⟩,
                ⟨(some 78), none, .iadr 1 (some 4) (.tmp 10) (.tmp 77)⟩,
                ⟨(some 79), none, .load (.tmp 78) none⟩,
                ⟨(some 80), none, .bin .sub (.tmp 76) (.tmp 79)⟩,
                ⟨(some 16), none, .mov (.tmp 80)⟩] [])
             (.seq (.reg [
                ⟨(some 81), none, .mov (.tmp 16)⟩,
                ⟨(some 82), none, .bin .gtr (.tmp 81) (.const (.int .i64 0))⟩])
             (.ite (.tmp 82)
               (.reg [
                 ⟨(some 83), none, .mov (.tmp 14)⟩,
                 ⟨(some 84), none, .mov (.tmp 16)⟩,
                 ⟨(some 85), none, .bin .add (.tmp 83) (.tmp 84)⟩,
                 ⟨(some 14), none, .mov (.tmp 85)⟩])
               (.skip))))))
          (.reg [
            ⟨(some 86), none, .bin .add (.tmp 71) (.const (.int .i64 1))⟩,
            ⟨(some 71), none, .mov (.tmp 86)⟩])))))))
     (.seq (.seq (.dreg [
         ⟨(some 87), none, .load (.tmp 13) (some 4)⟩,
         ⟨(some 88), none, .call 28 [(.tmp 87)]⟩,
         ⟨(some 89), none, .load (.tmp 10) (some 4)⟩,
         ⟨(some 90), none, .call 28 [(.tmp 89)]⟩,
         ⟨(some 91), none, .bin .neq (.tmp 88) (.tmp 90)⟩,
         ⟨(some 92), none, .mov (.tmp 91)⟩,
         ⟨(some 93), (some (92, false)), .mov (.tmp 14)⟩,
         ⟨(some 94), (some (92, false)), .bin .neq (.tmp 93) (.const (.int .i64 0))⟩,
         ⟨(some 95), (some (92, false)), .mov (.tmp 94)⟩,
         ⟨(some 96), (some (95, true)), .mov (.tmp 14)⟩,
         ⟨(some 97), (some (95, true)), .mov (.tmp 12)⟩,
         ⟨(some 98), (some (95, true)), .mov (.tmp 11)⟩,
         ⟨(some 99), (some (95, true)), .iadr 5 none (.tmp 97) (.tmp 98)⟩,
         ⟨(some 100), (some (95, true)), .fadr 0 (.tmp 99)⟩,
         ⟨(some 101), (some (95, true)), .fadr 1 (.tmp 100)⟩,
         ⟨(some 102), (some (95, true)), .load (.tmp 101) none⟩,
         ⟨(some 103), (some (95, true)), .bin .neq (.tmp 96) (.tmp 102)⟩,
         ⟨(some 104), (some (92, false)), .pick (.tmp 95) (.tmp 103) (.const (.bool false))⟩,
         ⟨(some 105), none, .pick (.tmp 92) (.const (.bool true)) (.tmp 104)⟩] [])
      (.ite (.tmp 105)
        (.seq (.reg [
           ⟨(some 6), none, .mov (.const (.bool false))⟩])
        (.ret))
        (.skip)))
     (.seq (.seq (.reg [
         ⟨(some 17), none, .mov (.const (.int .i64 0))⟩])
      (.block 4
        (.loop
          (.seq (.seq (.reg [
              ⟨(some 106), none, .mov (.tmp 17)⟩,
              ⟨(some 107), none, .bin .lss (.tmp 106) (.const (.int .i64 5))⟩])
           (.ite (.tmp 107)
             (.skip)
             (.exit 4)))
          (.seq (.block 5
             (.seq (.dreg [
                ⟨(some 110), none, .load (.tmp 13) (some 4)⟩,
                ⟨(some 111), none, .mov (.tmp 17)⟩,
                ⟨(some 112), none, .call 27 [(.tmp 110), (.tmp 111)]⟩,
                ⟨(some 113), none, .load (.tmp 10) (some 4)⟩,
                ⟨(some 114), none, .mov (.tmp 17)⟩,
                ⟨(some 115), none, .call 27 [(.tmp 113), (.tmp 114)]⟩,
                ⟨(some 116), none, .bin .lss (.tmp 112) (.tmp 115)⟩] [])
             (.ite (.tmp 116)
               (.seq (.reg [
                  ⟨(some 6), none, .mov (.const (.bool false))⟩])
               (.ret))
               (.skip))))
          (.reg [
            ⟨(some 108), none, .mov (.tmp 17)⟩,
            ⟨(some 109), none, .bin .add (.tmp 108) (.const (.int .i64 1))⟩,
            ⟨(some 17), none, .mov (.tmp 109)⟩]))))))
     (.seq (.reg [
        ⟨(some 117), none, .mov (.tmp 12)⟩,
        ⟨(some 118), none, .mov (.tmp 11)⟩,
        ⟨(some 119), none, .iadr 5 none (.tmp 117) (.tmp 118)⟩,
        ⟨(some 120), none, .fadr 0 (.tmp 119)⟩,
        ⟨(some 121), none, .fadr 1 (.tmp 120)⟩,
        ⟨none, none, .store (.tmp 121) (.const (.int .i64 0)) 1⟩])
     (.seq (.dreg [
        ⟨(some 122), none, .mov (.tmp 12)⟩,
        ⟨(some 123), none, .call 24 [(.tmp 122)]⟩,
        ⟨(some 124), none, .call 28 [(.tmp 123)]⟩,
        ⟨(some 125), none, .load (.tmp 10) (some 4)⟩,
        ⟨(some 126), none, .call 28 [(.tmp 125)]⟩,
        ⟨(some 127), none, .mov (.tmp 7)⟩,
        ⟨(some 128), none, .mov (.tmp 11)⟩,
        ⟨(some 129), none, .iadr 5 none (.tmp 127) (.tmp 128)⟩,
        ⟨(some 130), none, .fadr 0 (.tmp 129)⟩,
        ⟨(some 131), none, .fadr 1 (.tmp 130)⟩,
        ⟨(some 132), none, .load (.tmp 131) none⟩,
        ⟨(some 133), none, .bin .sub (.tmp 126) (.tmp 132)⟩,
        ⟨(some 134), none, .bin .neq (.tmp 124) (.tmp 133)⟩] [])
     (.ite (.tmp 134)
       (.seq (.reg [
          ⟨(some 6), none, .mov (.const (.bool false))⟩])
       (.ret))
       (.skip))))))))))))
     (.skip)))
  (.seq (.seq (.reg [
      ⟨(some 18), none, .mov (.const (.int .i64 0))⟩])
   (.block 6
     (.loop
       (.seq (.seq (.reg [
           ⟨(some 135), none, .mov (.tmp 18)⟩,
           ⟨(some 136), none, .bin .lss (.tmp 135) (.const (.int .i64 5))⟩])
        (.ite (.tmp 136)
          (.skip)
          (.exit 6)))
       (.seq (.block 7
          (.seq (.dreg [
             ⟨(some 139), none, .load (.tmp 10) (some 4)⟩,
             ⟨(some 140), none, .mov (.tmp 18)⟩,
             ⟨(some 141), none, .call 27 [(.tmp 139), (.tmp 140)]⟩,
             ⟨(some 142), none, .load (.tmp 10) (some 4)⟩,
             ⟨(some 143), none, .mov (.tmp 18)⟩,
             ⟨(some 144), none, .bin .add (.tmp 143) (.const (.int .i64 1))⟩,
             ⟨(some 145), none, .call 27 [(.tmp 142), (.tmp 144)]⟩,
             ⟨(some 146), none, .bin .lss (.tmp 141) (.tmp 145)⟩] [])
          (.ite (.tmp 146)
            (.seq (.reg [
               ⟨(some 6), none, .mov (.const (.bool false))⟩])
            (.ret))
            (.skip))))
       (.reg [
         ⟨(some 137), none, .mov (.tmp 18)⟩,
         ⟨(some 138), none, .bin .add (.tmp 137) (.const (.int .i64 1))⟩,
         ⟨(some 18), none, .mov (.tmp 138)⟩]))))))
  (.seq (.dreg [
     ⟨(some 147), none, .load (.tmp 10) (some 4)⟩,
     ⟨(some 148), none, .call 27 [(.tmp 147), (.const (.int .i64 (-1)))]⟩,
     ⟨(some 149), none, .load (.tmp 10) (some 4)⟩,
     ⟨(some 150), none, .call 28 [(.tmp 149)]⟩,
     ⟨(some 151), none, .bin .eql (.tmp 148) (.tmp 150)⟩,
     ⟨(some 152), none, .mov (.tmp 151)⟩,
     ⟨(some 153), (some (152, true)), .load (.tmp 10) (some 4)⟩,
     ⟨(some 154), (some (152, true)), .call 27 [(.tmp 153), (.const (.int .i64 4))]⟩,
     ⟨(some 155), (some (152, true)), .bin .eql (.tmp 154) (.const (.int .i64 0))⟩,
     ⟨(some 156), none, .pick (.tmp 152) (.tmp 155) (.const (.bool false))⟩,
     ⟨(some 157), none, .mov (.tmp 156)⟩,
     ⟨(some 158), (some (157, true)), .call 7 []⟩,
     ⟨(some 159), none, .pick (.tmp 157) (.tmp 158) (.const (.bool false))⟩,
     ⟨(some 6), none, .mov (.tmp 159)⟩] [])
  (.ret)))))))⟩
theorem st10 : stF Try.prog qtB 10 = some il10 := by kernel_rfl
def body10_0 : IL := .seq (.seq (.reg [
      ⟨(some 19), none, .mov (.tmp 8)⟩,
      ⟨(some 20), none, .mov (.tmp 0)⟩,
      ⟨(some 21), none, .len (.tmp 20)⟩,
      ⟨(some 22), none, .bin .lss (.tmp 19) (.tmp 21)⟩,
      ⟨(some 23), none, .mov (.tmp 22)⟩,
      ⟨(some 24), (some (23, true)), .mov (.tmp 8)⟩,
      ⟨(some 25), (some (23, true)), .bin .lss (.tmp 24) (.const (.int .i64 20))⟩,
      ⟨(some 26), none, .pick (.tmp 23) (.tmp 25) (.const (.bool false))⟩])
   (.ite (.tmp 26)
     (.skip)
     (.exit 0)))
  (.seq (.block 1
     (.seq (.reg [
        ⟨(some 9), none, .mov (.const (.int .i64 0))⟩])
     (.seq (.seq (.reg [
         ⟨(some 29), none, .mov (.tmp 8)⟩,
         ⟨(some 30), none, .mov (.tmp 1)⟩,
         ⟨(some 31), none, .len (.tmp 30)⟩,
         ⟨(some 32), none, .bin .lss (.tmp 29) (.tmp 31)⟩])
      (.ite (.tmp 32)
        (.reg [
          ⟨(some 33), none, .mov (.tmp 1)⟩,
          ⟨(some 34), none, .mov (.tmp 8)⟩,
          ⟨(some 35), none, .iadr 1 none (.tmp 33) (.tmp 34)⟩,
          ⟨(some 36), none, .load (.tmp 35) none⟩,
          ⟨(some 37), none, .call 19 [(.tmp 36), (.const (.int .i64 0)), (.const (.int .i64 11))]⟩,
          ⟨(some 9), none, .mov (.tmp 37)⟩])
        (.skip)))
     (.reg [
       ⟨(some 38), none, .mov (.tmp 7)⟩,
       ⟨(some 39), none, .mov (.tmp 0)⟩,
       ⟨(some 40), none, .mov (.tmp 8)⟩,
       ⟨(some 41), none, .iadr 1 none (.tmp 39) (.tmp 40)⟩,
       ⟨(some 42), none, .load (.tmp 41) none⟩,
       ⟨(some 43), none, .call 19 [(.tmp 42), (.const (.int .i64 0)), (.const (.int .i64 1073741824))]⟩,
       ⟨(some 44), none, .mov (.tmp 9)⟩,
       ⟨(some 45), none, .call 25 [(.tmp 43), (.tmp 44)]⟩,
       ⟨(some 46), none, .mkrow [(.int .i64 0), (.int .i64 0), (.int .i64 0), (.int .i64 0), (.bool false)] 1 [(0, 5, (.tmp 45))]⟩,
       ⟨(some 47), none, .append 5 40 (.tmp 38) (.tmp 46)⟩,
       ⟨(some 7), none, .mov (.tmp 47)⟩]))))
  (.reg [
    ⟨(some 27), none, .mov (.tmp 8)⟩,
    ⟨(some 28), none, .bin .add (.tmp 27) (.const (.int .i64 1))⟩,
    ⟨(some 8), none, .mov (.tmp 28)⟩]))
def hn10y (s0 s1 l l2 q0 q1 : Value) (a2 n nm i z0 z1 : Int) (H H2 : Heap) : Hj := (.use 21 (.int .i64 n) H (.join 3 (.con (.con (.con .nil))) (.con (.con (.con .nil))) (.yes (.use 31 (.int .i64 nm) H (.yes (.use 35 q1 H (.use 36 (.int .i64 z1) H (.use 41 q0 H (.use 42 (.int .i64 z0) H (.use 47 l2 H2 .nil))))))))))
theorem tree10y (s0 s1 l l2 q0 q1 : Value) (a2 n nm i z0 z1 : Int) (H H2 : Heap) : pieceT tblC gK 100 (fun i => exL i body10_0 || inL [2, 6, 7] i) body10_0 (hn10y s0 s1 l l2 q0 q1 a2 n nm i z0 z1 H H2) (fr 160 [(0, s0), (1, s1), (2, (.int .i64 a2)), (6, (.bool false)), (7, l), (8, (.int .i64 i))]) H =
(.claim (opA (Plain.env tblC gK) (.len (.const s0)) [] H = some ((.int .i64 n), H))
 (.req (bif (decide (i < n)) then true else true) (.req (bif (decide (i < n)) then (decide (i < 20)) else false) (.claim (opA (Plain.env tblC gK) (.len (.const s1)) [] H = some ((.int .i64 nm), H))
 (.req (decide (i < nm)) (.claim (opA (Plain.env tblC gK) (.iadr 1 none (.const s1) (.const (.int .i64 i))) [] H = some (q1, H))
 (.claim (opA (Plain.env tblC gK) (.load (.const q1) none) [] H = some ((.int .i64 z1), H))
 (.req (preWithin 0 11) (.claim (opA (Plain.env tblC gK) (.iadr 1 none (.const s0) (.const (.int .i64 i))) [] H = some (q0, H))
 (.claim (opA (Plain.env tblC gK) (.load (.const q0) none) [] H = some ((.int .i64 z0), H))
 (.req (preWithin 0 1073741824) (.req true (.claim (opA (Plain.env tblC gK) (.append 5 40 (.const l) (.const (.slice (some ⟨(H).length, 0, none⟩) 1 1))) [] (H ++ [some (Blk.mk .fix [(.int .i64 0), (.int .i64 (wn z0 0 1073741824)), (.int .i64 0), (.int .i64 (wn z1 0 11)), (.bool false)])]) = some (l2, H2))
 (.ret (pk .normal (fr 160 [(0, s0), (1, s1), (2, (.int .i64 a2)), (6, (.bool false)), (7, l2), (8, (.int .i64 (IntKind.wrap .i64 (i + 1))))])) H2)))))))))))))) := by kernel_rfl
def hn10n (s0 s1 l l2 q0 q1 : Value) (a2 n nm i z0 z1 : Int) (H H2 : Heap) : Hj := (.use 21 (.int .i64 n) H (.join 3 (.con (.con (.con .nil))) (.con (.con (.con .nil))) (.yes (.use 31 (.int .i64 nm) H (.no (.use 41 q0 H (.use 42 (.int .i64 z0) H (.use 47 l2 H2 .nil))))))))
theorem tree10n (s0 s1 l l2 q0 q1 : Value) (a2 n nm i z0 z1 : Int) (H H2 : Heap) : pieceT tblC gK 100 (fun i => exL i body10_0 || inL [2, 6, 7] i) body10_0 (hn10n s0 s1 l l2 q0 q1 a2 n nm i z0 z1 H H2) (fr 160 [(0, s0), (1, s1), (2, (.int .i64 a2)), (6, (.bool false)), (7, l), (8, (.int .i64 i))]) H =
(.claim (opA (Plain.env tblC gK) (.len (.const s0)) [] H = some ((.int .i64 n), H))
 (.req (bif (decide (i < n)) then true else true) (.req (bif (decide (i < n)) then (decide (i < 20)) else false) (.claim (opA (Plain.env tblC gK) (.len (.const s1)) [] H = some ((.int .i64 nm), H))
 (.req (!(decide (i < nm))) (.claim (opA (Plain.env tblC gK) (.iadr 1 none (.const s0) (.const (.int .i64 i))) [] H = some (q0, H))
 (.claim (opA (Plain.env tblC gK) (.load (.const q0) none) [] H = some ((.int .i64 z0), H))
 (.req (preWithin 0 1073741824) (.req true (.claim (opA (Plain.env tblC gK) (.append 5 40 (.const l) (.const (.slice (some ⟨(H).length, 0, none⟩) 1 1))) [] (H ++ [some (Blk.mk .fix [(.int .i64 0), (.int .i64 (wn z0 0 1073741824)), (.int .i64 0), (.int .i64 0), (.bool false)])]) = some (l2, H2))
 (.ret (pk .normal (fr 160 [(0, s0), (1, s1), (2, (.int .i64 a2)), (6, (.bool false)), (7, l2), (8, (.int .i64 (IntKind.wrap .i64 (i + 1))))])) H2))))))))))) := by kernel_rfl
def hn10x (s0 s1 l l2 q0 q1 : Value) (a2 n nm i z0 z1 : Int) (H H2 : Heap) : Hj := (.use 21 (.int .i64 n) H (.join 3 (.con (.con (.con .nil))) (.con (.con (.con .nil))) (.no .nil)))
theorem tree10x (s0 s1 l l2 q0 q1 : Value) (a2 n nm i z0 z1 : Int) (H H2 : Heap) : pieceT tblC gK 100 (fun i => exL i body10_0 || inL [2, 6, 7] i) body10_0 (hn10x s0 s1 l l2 q0 q1 a2 n nm i z0 z1 H H2) (fr 160 [(0, s0), (1, s1), (2, (.int .i64 a2)), (6, (.bool false)), (7, l), (8, (.int .i64 i))]) H =
(.claim (opA (Plain.env tblC gK) (.len (.const s0)) [] H = some ((.int .i64 n), H))
 (.req (bif (decide (i < n)) then true else true) (.req (!(bif (decide (i < n)) then (decide (i < 20)) else false)) (.ret (pk (.exit 0) (fr 160 [(0, s0), (1, s1), (2, (.int .i64 a2)), (6, (.bool false)), (7, l), (8, (.int .i64 i))])) H)))) := by kernel_rfl
def hn10ke (s0 s1 l lt : Value) (a2 n m bal : Int) (b bl o : Nat) (x0 x1 x2 x3 : Int) (y0 y1 y2 y3 : Int) (z0 z1 z2 z3 : Int) (H H1 Hb Hc3 Hc1 : Heap) : Hj := (.lp 0 [2, 6, 7] (fr 160 [(2, (.int .i64 a2)), (6, (.bool false)), (7, l)]) H1 (.use 49 (.agg ⟨[(.int .i64 x0), (.int .i64 x1), (.int .i64 x2), (.int .i64 x3)]⟩) H1 (.use 9999 (.tuple ⟨[]⟩) (H1 ++ [some (Blk.mk .fix [(.int .i64 x0), (.int .i64 x1), (.int .i64 x2), (.int .i64 x3)])]) (.use 51 (.int .i64 n) (H1 ++ [some (Blk.mk .fix [(.int .i64 x0), (.int .i64 x1), (.int .i64 x2), (.int .i64 x3)])]) (.no (.con (.use 139 (.agg ⟨[(.int .i64 x0), (.int .i64 x1), (.int .i64 x2), (.int .i64 x3)]⟩) (H1 ++ [some (Blk.mk .fix [(.int .i64 x0), (.int .i64 x1), (.int .i64 x2), (.int .i64 x3)])]) (.use 142 (.agg ⟨[(.int .i64 x0), (.int .i64 x1), (.int .i64 x2), (.int .i64 x3)]⟩) (H1 ++ [some (Blk.mk .fix [(.int .i64 x0), (.int .i64 x1), (.int .i64 x2), (.int .i64 x3)])]) (.no (.con (.use 139 (.agg ⟨[(.int .i64 x0), (.int .i64 x1), (.int .i64 x2), (.int .i64 x3)]⟩) (H1 ++ [some (Blk.mk .fix [(.int .i64 x0), (.int .i64 x1), (.int .i64 x2), (.int .i64 x3)])]) (.use 142 (.agg ⟨[(.int .i64 x0), (.int .i64 x1), (.int .i64 x2), (.int .i64 x3)]⟩) (H1 ++ [some (Blk.mk .fix [(.int .i64 x0), (.int .i64 x1), (.int .i64 x2), (.int .i64 x3)])]) (.no (.con (.use 139 (.agg ⟨[(.int .i64 x0), (.int .i64 x1), (.int .i64 x2), (.int .i64 x3)]⟩) (H1 ++ [some (Blk.mk .fix [(.int .i64 x0), (.int .i64 x1), (.int .i64 x2), (.int .i64 x3)])]) (.use 142 (.agg ⟨[(.int .i64 x0), (.int .i64 x1), (.int .i64 x2), (.int .i64 x3)]⟩) (H1 ++ [some (Blk.mk .fix [(.int .i64 x0), (.int .i64 x1), (.int .i64 x2), (.int .i64 x3)])]) (.no (.con (.use 139 (.agg ⟨[(.int .i64 x0), (.int .i64 x1), (.int .i64 x2), (.int .i64 x3)]⟩) (H1 ++ [some (Blk.mk .fix [(.int .i64 x0), (.int .i64 x1), (.int .i64 x2), (.int .i64 x3)])]) (.use 142 (.agg ⟨[(.int .i64 x0), (.int .i64 x1), (.int .i64 x2), (.int .i64 x3)]⟩) (H1 ++ [some (Blk.mk .fix [(.int .i64 x0), (.int .i64 x1), (.int .i64 x2), (.int .i64 x3)])]) (.no (.con (.use 139 (.agg ⟨[(.int .i64 x0), (.int .i64 x1), (.int .i64 x2), (.int .i64 x3)]⟩) (H1 ++ [some (Blk.mk .fix [(.int .i64 x0), (.int .i64 x1), (.int .i64 x2), (.int .i64 x3)])]) (.use 142 (.agg ⟨[(.int .i64 x0), (.int .i64 x1), (.int .i64 x2), (.int .i64 x3)]⟩) (H1 ++ [some (Blk.mk .fix [(.int .i64 x0), (.int .i64 x1), (.int .i64 x2), (.int .i64 x3)])]) (.no (.con (.use 147 (.agg ⟨[(.int .i64 x0), (.int .i64 x1), (.int .i64 x2), (.int .i64 x3)]⟩) (H1 ++ [some (Blk.mk .fix [(.int .i64 x0), (.int .i64 x1), (.int .i64 x2), (.int .i64 x3)])]) (.use 149 (.agg ⟨[(.int .i64 x0), (.int .i64 x1), (.int .i64 x2), (.int .i64 x3)]⟩) (H1 ++ [some (Blk.mk .fix [(.int .i64 x0), (.int .i64 x1), (.int .i64 x2), (.int .i64 x3)])]) (.yes (.use 153 (.agg ⟨[(.int .i64 x0), (.int .i64 x1), (.int .i64 x2), (.int .i64 x3)]⟩) (H1 ++ [some (Blk.mk .fix [(.int .i64 x0), (.int .i64 x1), (.int .i64 x2), (.int .i64 x3)])]) (.con (.con (.con (.yes (.con .nil)))))))))))))))))))))))))))))))))))
theorem tree10ke (s0 s1 l lt : Value) (a2 n m bal : Int) (b bl o : Nat) (x0 x1 x2 x3 : Int) (y0 y1 y2 y3 : Int) (z0 z1 z2 z3 : Int) (H H1 Hb Hc3 Hc1 : Heap) : pieceT tblC gK 200 (resLv [.tmp 6]) il10.body (hn10ke s0 s1 l lt a2 n m bal b bl o x0 x1 x2 x3 y0 y1 y2 y3 z0 z1 z2 z3 H H1 Hb Hc3 Hc1) (fr 160 [(0, s0), (1, s1), (2, (.int .i64 a2))]) H =
(.claim (Wp (Plain.env tblC gK) (inL [2, 6, 7]) (.block 0 (.loop body10_0)) (fr 160 [(0, s0), (1, s1), (2, (.int .i64 a2)), (6, (.bool false)), (7, (.slice none 0 0)), (8, (.int .i64 0))]) H fun e s h' => e = .normal ∧ s = (fr 160 [(2, (.int .i64 a2)), (6, (.bool false)), (7, l)]) ∧ h' = H1)
 (.claim (opA (Plain.env tblC gK) (.call 24 [(.const l)]) [] H1 = some ((.agg ⟨[(.int .i64 x0), (.int .i64 x1), (.int .i64 x2), (.int .i64 x3)]⟩), H1))
 (.claim (opA (Plain.env tblC gK) (.store (.const (.pointer (some ⟨(H1).length, 0, none⟩))) (.const (.agg ⟨[(.int .i64 x0), (.int .i64 x1), (.int .i64 x2), (.int .i64 x3)]⟩)) 4) [] (H1 ++ [some (Blk.mk .fix [(.int .i64 0), (.int .i64 0), (.int .i64 0), (.int .i64 0)])]) = some ((.tuple ⟨[]⟩), (H1 ++ [some (Blk.mk .fix [(.int .i64 x0), (.int .i64 x1), (.int .i64 x2), (.int .i64 x3)])])))
 (.claim (opA (Plain.env tblC gK) (.len (.const l)) [] (H1 ++ [some (Blk.mk .fix [(.int .i64 x0), (.int .i64 x1), (.int .i64 x2), (.int .i64 x3)])]) = some ((.int .i64 n), (H1 ++ [some (Blk.mk .fix [(.int .i64 x0), (.int .i64 x1), (.int .i64 x2), (.int .i64 x3)])])))
 (.req (!(decide (n > 0))) (.req true (.claim (opA (Plain.env tblC gK) (.load (.const (.pointer (some ⟨(H1).length, 0, none⟩))) (some 4)) [] (H1 ++ [some (Blk.mk .fix [(.int .i64 x0), (.int .i64 x1), (.int .i64 x2), (.int .i64 x3)])]) = some ((.agg ⟨[(.int .i64 x0), (.int .i64 x1), (.int .i64 x2), (.int .i64 x3)]⟩), (H1 ++ [some (Blk.mk .fix [(.int .i64 x0), (.int .i64 x1), (.int .i64 x2), (.int .i64 x3)])])))
 (.req true (.claim (opA (Plain.env tblC gK) (.load (.const (.pointer (some ⟨(H1).length, 0, none⟩))) (some 4)) [] (H1 ++ [some (Blk.mk .fix [(.int .i64 x0), (.int .i64 x1), (.int .i64 x2), (.int .i64 x3)])]) = some ((.agg ⟨[(.int .i64 x0), (.int .i64 x1), (.int .i64 x2), (.int .i64 x3)]⟩), (H1 ++ [some (Blk.mk .fix [(.int .i64 x0), (.int .i64 x1), (.int .i64 x2), (.int .i64 x3)])])))
 (.req true (.req (!(decide ((fromB ⟨x0, x1, x2, x3⟩ 0) < (fromB ⟨x0, x1, x2, x3⟩ 1)))) (.req true (.claim (opA (Plain.env tblC gK) (.load (.const (.pointer (some ⟨(H1).length, 0, none⟩))) (some 4)) [] (H1 ++ [some (Blk.mk .fix [(.int .i64 x0), (.int .i64 x1), (.int .i64 x2), (.int .i64 x3)])]) = some ((.agg ⟨[(.int .i64 x0), (.int .i64 x1), (.int .i64 x2), (.int .i64 x3)]⟩), (H1 ++ [some (Blk.mk .fix [(.int .i64 x0), (.int .i64 x1), (.int .i64 x2), (.int .i64 x3)])])))
 (.req true (.claim (opA (Plain.env tblC gK) (.load (.const (.pointer (some ⟨(H1).length, 0, none⟩))) (some 4)) [] (H1 ++ [some (Blk.mk .fix [(.int .i64 x0), (.int .i64 x1), (.int .i64 x2), (.int .i64 x3)])]) = some ((.agg ⟨[(.int .i64 x0), (.int .i64 x1), (.int .i64 x2), (.int .i64 x3)]⟩), (H1 ++ [some (Blk.mk .fix [(.int .i64 x0), (.int .i64 x1), (.int .i64 x2), (.int .i64 x3)])])))
 (.req true (.req (!(decide ((fromB ⟨x0, x1, x2, x3⟩ 1) < (fromB ⟨x0, x1, x2, x3⟩ 2)))) (.req true (.claim (opA (Plain.env tblC gK) (.load (.const (.pointer (some ⟨(H1).length, 0, none⟩))) (some 4)) [] (H1 ++ [some (Blk.mk .fix [(.int .i64 x0), (.int .i64 x1), (.int .i64 x2), (.int .i64 x3)])]) = some ((.agg ⟨[(.int .i64 x0), (.int .i64 x1), (.int .i64 x2), (.int .i64 x3)]⟩), (H1 ++ [some (Blk.mk .fix [(.int .i64 x0), (.int .i64 x1), (.int .i64 x2), (.int .i64 x3)])])))
 (.req true (.claim (opA (Plain.env tblC gK) (.load (.const (.pointer (some ⟨(H1).length, 0, none⟩))) (some 4)) [] (H1 ++ [some (Blk.mk .fix [(.int .i64 x0), (.int .i64 x1), (.int .i64 x2), (.int .i64 x3)])]) = some ((.agg ⟨[(.int .i64 x0), (.int .i64 x1), (.int .i64 x2), (.int .i64 x3)]⟩), (H1 ++ [some (Blk.mk .fix [(.int .i64 x0), (.int .i64 x1), (.int .i64 x2), (.int .i64 x3)])])))
 (.req true (.req (!(decide ((fromB ⟨x0, x1, x2, x3⟩ 2) < (fromB ⟨x0, x1, x2, x3⟩ 3)))) (.req true (.claim (opA (Plain.env tblC gK) (.load (.const (.pointer (some ⟨(H1).length, 0, none⟩))) (some 4)) [] (H1 ++ [some (Blk.mk .fix [(.int .i64 x0), (.int .i64 x1), (.int .i64 x2), (.int .i64 x3)])]) = some ((.agg ⟨[(.int .i64 x0), (.int .i64 x1), (.int .i64 x2), (.int .i64 x3)]⟩), (H1 ++ [some (Blk.mk .fix [(.int .i64 x0), (.int .i64 x1), (.int .i64 x2), (.int .i64 x3)])])))
 (.req true (.claim (opA (Plain.env tblC gK) (.load (.const (.pointer (some ⟨(H1).length, 0, none⟩))) (some 4)) [] (H1 ++ [some (Blk.mk .fix [(.int .i64 x0), (.int .i64 x1), (.int .i64 x2), (.int .i64 x3)])]) = some ((.agg ⟨[(.int .i64 x0), (.int .i64 x1), (.int .i64 x2), (.int .i64 x3)]⟩), (H1 ++ [some (Blk.mk .fix [(.int .i64 x0), (.int .i64 x1), (.int .i64 x2), (.int .i64 x3)])])))
 (.req true (.req (!(decide ((fromB ⟨x0, x1, x2, x3⟩ 3) < (fromB ⟨x0, x1, x2, x3⟩ 4)))) (.req true (.claim (opA (Plain.env tblC gK) (.load (.const (.pointer (some ⟨(H1).length, 0, none⟩))) (some 4)) [] (H1 ++ [some (Blk.mk .fix [(.int .i64 x0), (.int .i64 x1), (.int .i64 x2), (.int .i64 x3)])]) = some ((.agg ⟨[(.int .i64 x0), (.int .i64 x1), (.int .i64 x2), (.int .i64 x3)]⟩), (H1 ++ [some (Blk.mk .fix [(.int .i64 x0), (.int .i64 x1), (.int .i64 x2), (.int .i64 x3)])])))
 (.req true (.claim (opA (Plain.env tblC gK) (.load (.const (.pointer (some ⟨(H1).length, 0, none⟩))) (some 4)) [] (H1 ++ [some (Blk.mk .fix [(.int .i64 x0), (.int .i64 x1), (.int .i64 x2), (.int .i64 x3)])]) = some ((.agg ⟨[(.int .i64 x0), (.int .i64 x1), (.int .i64 x2), (.int .i64 x3)]⟩), (H1 ++ [some (Blk.mk .fix [(.int .i64 x0), (.int .i64 x1), (.int .i64 x2), (.int .i64 x3)])])))
 (.req true (.req (!(decide ((fromB ⟨x0, x1, x2, x3⟩ 4) < (fromB ⟨x0, x1, x2, x3⟩ 5)))) (.req true (.claim (opA (Plain.env tblC gK) (.load (.const (.pointer (some ⟨(H1).length, 0, none⟩))) (some 4)) [] (H1 ++ [some (Blk.mk .fix [(.int .i64 x0), (.int .i64 x1), (.int .i64 x2), (.int .i64 x3)])]) = some ((.agg ⟨[(.int .i64 x0), (.int .i64 x1), (.int .i64 x2), (.int .i64 x3)]⟩), (H1 ++ [some (Blk.mk .fix [(.int .i64 x0), (.int .i64 x1), (.int .i64 x2), (.int .i64 x3)])])))
 (.req true (.claim (opA (Plain.env tblC gK) (.load (.const (.pointer (some ⟨(H1).length, 0, none⟩))) (some 4)) [] (H1 ++ [some (Blk.mk .fix [(.int .i64 x0), (.int .i64 x1), (.int .i64 x2), (.int .i64 x3)])]) = some ((.agg ⟨[(.int .i64 x0), (.int .i64 x1), (.int .i64 x2), (.int .i64 x3)]⟩), (H1 ++ [some (Blk.mk .fix [(.int .i64 x0), (.int .i64 x1), (.int .i64 x2), (.int .i64 x3)])])))
 (.req true (.req ((fromB ⟨x0, x1, x2, x3⟩ (-1)) == (fromB ⟨x0, x1, x2, x3⟩ 0)) (.claim (opA (Plain.env tblC gK) (.load (.const (.pointer (some ⟨(H1).length, 0, none⟩))) (some 4)) [] (H1 ++ [some (Blk.mk .fix [(.int .i64 x0), (.int .i64 x1), (.int .i64 x2), (.int .i64 x3)])]) = some ((.agg ⟨[(.int .i64 x0), (.int .i64 x1), (.int .i64 x2), (.int .i64 x3)]⟩), (H1 ++ [some (Blk.mk .fix [(.int .i64 x0), (.int .i64 x1), (.int .i64 x2), (.int .i64 x3)])])))
 (.req true (.req ((fromB ⟨x0, x1, x2, x3⟩ 4) == 0) (.req true (.ret (pk .ret (fr 160 [(6, (.bool true))])) (H1 ++ [some (Blk.mk .fix [(.int .i64 x0), (.int .i64 x1), (.int .i64 x2), (.int .i64 x3)])]))))))))))))))))))))))))))))))))))))))))))))))) := by kernel_rfl
def hn10k0 (s0 s1 l lt : Value) (a2 n m bal : Int) (b bl o : Nat) (x0 x1 x2 x3 : Int) (y0 y1 y2 y3 : Int) (z0 z1 z2 z3 : Int) (H H1 Hb Hc3 Hc1 : Heap) : Hj := (.lp 0 [2, 6, 7] (fr 160 [(2, (.int .i64 a2)), (6, (.bool false)), (7, l)]) H1 (.use 49 (.agg ⟨[(.int .i64 x0), (.int .i64 x1), (.int .i64 x2), (.int .i64 x3)]⟩) H1 (.use 9999 (.tuple ⟨[]⟩) (H1 ++ [some (Blk.mk .fix [(.int .i64 x0), (.int .i64 x1), (.int .i64 x2), (.int .i64 x3)])]) (.use 51 (.int .i64 n) (H1 ++ [some (Blk.mk .fix [(.int .i64 x0), (.int .i64 x1), (.int .i64 x2), (.int .i64 x3)])]) (.yes (.use 55 (.int .i64 n) (H1 ++ [some (Blk.mk .fix [(.int .i64 x0), (.int .i64 x1), (.int .i64 x2), (.int .i64 x3)])]) (.use 60 lt Hb (.use 63 (.pointer (some ⟨b, (o + 0), none⟩)) Hb (.use 65 (.int .i64 m) Hb (.use 67 (.pointer (some ⟨b, (o + 0), none⟩)) Hb (.use 9999 (.tuple ⟨[]⟩) Hc3 (.use 70 (.agg ⟨[(.int .i64 y0), (.int .i64 y1), (.int .i64 y2), (.int .i64 y3)]⟩) Hc3 (.use 9999 (.tuple ⟨[]⟩) (Hc3 ++ [some (Blk.mk .fix [(.int .i64 y0), (.int .i64 y1), (.int .i64 y2), (.int .i64 y3)])]) (.con (.use 76 (.int .i64 y0) (Hc3 ++ [some (Blk.mk .fix [(.int .i64 y0), (.int .i64 y1), (.int .i64 y2), (.int .i64 y3)])]) (.use 79 (.int .i64 x0) (Hc3 ++ [some (Blk.mk .fix [(.int .i64 y0), (.int .i64 y1), (.int .i64 y2), (.int .i64 y3)])]) (.no (.con (.use 76 (.int .i64 y1) (Hc3 ++ [some (Blk.mk .fix [(.int .i64 y0), (.int .i64 y1), (.int .i64 y2), (.int .i64 y3)])]) (.use 79 (.int .i64 x1) (Hc3 ++ [some (Blk.mk .fix [(.int .i64 y0), (.int .i64 y1), (.int .i64 y2), (.int .i64 y3)])]) (.no (.con (.use 76 (.int .i64 y2) (Hc3 ++ [some (Blk.mk .fix [(.int .i64 y0), (.int .i64 y1), (.int .i64 y2), (.int .i64 y3)])]) (.use 79 (.int .i64 x2) (Hc3 ++ [some (Blk.mk .fix [(.int .i64 y0), (.int .i64 y1), (.int .i64 y2), (.int .i64 y3)])]) (.no (.con (.use 76 (.int .i64 y3) (Hc3 ++ [some (Blk.mk .fix [(.int .i64 y0), (.int .i64 y1), (.int .i64 y2), (.int .i64 y3)])]) (.use 79 (.int .i64 x3) (Hc3 ++ [some (Blk.mk .fix [(.int .i64 y0), (.int .i64 y1), (.int .i64 y2), (.int .i64 y3)])]) (.no (.con (.use 87 (.agg ⟨[(.int .i64 y0), (.int .i64 y1), (.int .i64 y2), (.int .i64 y3)]⟩) (Hc3 ++ [some (Blk.mk .fix [(.int .i64 y0), (.int .i64 y1), (.int .i64 y2), (.int .i64 y3)])]) (.use 89 (.agg ⟨[(.int .i64 x0), (.int .i64 x1), (.int .i64 x2), (.int .i64 x3)]⟩) (Hc3 ++ [some (Blk.mk .fix [(.int .i64 y0), (.int .i64 y1), (.int .i64 y2), (.int .i64 y3)])]) (.no (.con (.con (.con (.con (.con (.con (.con (.con (.con (.con (.con (.con (.con (.con (.con (.use 110 (.agg ⟨[(.int .i64 y0), (.int .i64 y1), (.int .i64 y2), (.int .i64 y3)]⟩) (Hc3 ++ [some (Blk.mk .fix [(.int .i64 y0), (.int .i64 y1), (.int .i64 y2), (.int .i64 y3)])]) (.use 113 (.agg ⟨[(.int .i64 x0), (.int .i64 x1), (.int .i64 x2), (.int .i64 x3)]⟩) (Hc3 ++ [some (Blk.mk .fix [(.int .i64 y0), (.int .i64 y1), (.int .i64 y2), (.int .i64 y3)])]) (.no (.con (.use 110 (.agg ⟨[(.int .i64 y0), (.int .i64 y1), (.int .i64 y2), (.int .i64 y3)]⟩) (Hc3 ++ [some (Blk.mk .fix [(.int .i64 y0), (.int .i64 y1), (.int .i64 y2), (.int .i64 y3)])]) (.use 113 (.agg ⟨[(.int .i64 x0), (.int .i64 x1), (.int .i64 x2), (.int .i64 x3)]⟩) (Hc3 ++ [some (Blk.mk .fix [(.int .i64 y0), (.int .i64 y1), (.int .i64 y2), (.int .i64 y3)])]) (.no (.con (.use 110 (.agg ⟨[(.int .i64 y0), (.int .i64 y1), (.int .i64 y2), (.int .i64 y3)]⟩) (Hc3 ++ [some (Blk.mk .fix [(.int .i64 y0), (.int .i64 y1), (.int .i64 y2), (.int .i64 y3)])]) (.use 113 (.agg ⟨[(.int .i64 x0), (.int .i64 x1), (.int .i64 x2), (.int .i64 x3)]⟩) (Hc3 ++ [some (Blk.mk .fix [(.int .i64 y0), (.int .i64 y1), (.int .i64 y2), (.int .i64 y3)])]) (.no (.con (.use 110 (.agg ⟨[(.int .i64 y0), (.int .i64 y1), (.int .i64 y2), (.int .i64 y3)]⟩) (Hc3 ++ [some (Blk.mk .fix [(.int .i64 y0), (.int .i64 y1), (.int .i64 y2), (.int .i64 y3)])]) (.use 113 (.agg ⟨[(.int .i64 x0), (.int .i64 x1), (.int .i64 x2), (.int .i64 x3)]⟩) (Hc3 ++ [some (Blk.mk .fix [(.int .i64 y0), (.int .i64 y1), (.int .i64 y2), (.int .i64 y3)])]) (.no (.con (.use 110 (.agg ⟨[(.int .i64 y0), (.int .i64 y1), (.int .i64 y2), (.int .i64 y3)]⟩) (Hc3 ++ [some (Blk.mk .fix [(.int .i64 y0), (.int .i64 y1), (.int .i64 y2), (.int .i64 y3)])]) (.use 113 (.agg ⟨[(.int .i64 x0), (.int .i64 x1), (.int .i64 x2), (.int .i64 x3)]⟩) (Hc3 ++ [some (Blk.mk .fix [(.int .i64 y0), (.int .i64 y1), (.int .i64 y2), (.int .i64 y3)])]) (.no (.con (.use 119 (.pointer (some ⟨b, (o + 0), none⟩)) (Hc3 ++ [some (Blk.mk .fix [(.int .i64 y0), (.int .i64 y1), (.int .i64 y2), (.int .i64 y3)])]) (.use 9999 (.tuple ⟨[]⟩) Hc1 (.use 123 (.agg ⟨[(.int .i64 z0), (.int .i64 z1), (.int .i64 z2), (.int .i64 z3)]⟩) Hc1 (.use 125 (.agg ⟨[(.int .i64 x0), (.int .i64 x1), (.int .i64 x2), (.int .i64 x3)]⟩) Hc1 (.use 129 (.pointer (some ⟨bl, (o + 0), none⟩)) Hc1 (.use 132 (.int .i64 bal) Hc1 (.no (.con (.use 139 (.agg ⟨[(.int .i64 x0), (.int .i64 x1), (.int .i64 x2), (.int .i64 x3)]⟩) Hc1 (.use 142 (.agg ⟨[(.int .i64 x0), (.int .i64 x1), (.int .i64 x2), (.int .i64 x3)]⟩) Hc1 (.no (.con (.use 139 (.agg ⟨[(.int .i64 x0), (.int .i64 x1), (.int .i64 x2), (.int .i64 x3)]⟩) Hc1 (.use 142 (.agg ⟨[(.int .i64 x0), (.int .i64 x1), (.int .i64 x2), (.int .i64 x3)]⟩) Hc1 (.no (.con (.use 139 (.agg ⟨[(.int .i64 x0), (.int .i64 x1), (.int .i64 x2), (.int .i64 x3)]⟩) Hc1 (.use 142 (.agg ⟨[(.int .i64 x0), (.int .i64 x1), (.int .i64 x2), (.int .i64 x3)]⟩) Hc1 (.no (.con (.use 139 (.agg ⟨[(.int .i64 x0), (.int .i64 x1), (.int .i64 x2), (.int .i64 x3)]⟩) Hc1 (.use 142 (.agg ⟨[(.int .i64 x0), (.int .i64 x1), (.int .i64 x2), (.int .i64 x3)]⟩) Hc1 (.no (.con (.use 139 (.agg ⟨[(.int .i64 x0), (.int .i64 x1), (.int .i64 x2), (.int .i64 x3)]⟩) Hc1 (.use 142 (.agg ⟨[(.int .i64 x0), (.int .i64 x1), (.int .i64 x2), (.int .i64 x3)]⟩) Hc1 (.no (.con (.use 147 (.agg ⟨[(.int .i64 x0), (.int .i64 x1), (.int .i64 x2), (.int .i64 x3)]⟩) Hc1 (.use 149 (.agg ⟨[(.int .i64 x0), (.int .i64 x1), (.int .i64 x2), (.int .i64 x3)]⟩) Hc1 (.yes (.use 153 (.agg ⟨[(.int .i64 x0), (.int .i64 x1), (.int .i64 x2), (.int .i64 x3)]⟩) Hc1 (.con (.con (.con (.yes (.con .nil)))))))))))))))))))))))))))))))))))))))))))))))))))))))))))))))))))))))))))))))))))))))))))))))))))))))))
theorem tree10k0 (s0 s1 l lt : Value) (a2 n m bal : Int) (b bl o : Nat) (x0 x1 x2 x3 : Int) (y0 y1 y2 y3 : Int) (z0 z1 z2 z3 : Int) (H H1 Hb Hc3 Hc1 : Heap) : pieceT tblC gK 200 (resLv [.tmp 6]) il10.body (hn10k0 s0 s1 l lt a2 n m bal b bl o x0 x1 x2 x3 y0 y1 y2 y3 z0 z1 z2 z3 H H1 Hb Hc3 Hc1) (fr 160 [(0, s0), (1, s1), (2, (.int .i64 a2))]) H =
(.claim (Wp (Plain.env tblC gK) (inL [2, 6, 7]) (.block 0 (.loop body10_0)) (fr 160 [(0, s0), (1, s1), (2, (.int .i64 a2)), (6, (.bool false)), (7, (.slice none 0 0)), (8, (.int .i64 0))]) H fun e s h' => e = .normal ∧ s = (fr 160 [(2, (.int .i64 a2)), (6, (.bool false)), (7, l)]) ∧ h' = H1)
 (.claim (opA (Plain.env tblC gK) (.call 24 [(.const l)]) [] H1 = some ((.agg ⟨[(.int .i64 x0), (.int .i64 x1), (.int .i64 x2), (.int .i64 x3)]⟩), H1))
 (.claim (opA (Plain.env tblC gK) (.store (.const (.pointer (some ⟨(H1).length, 0, none⟩))) (.const (.agg ⟨[(.int .i64 x0), (.int .i64 x1), (.int .i64 x2), (.int .i64 x3)]⟩)) 4) [] (H1 ++ [some (Blk.mk .fix [(.int .i64 0), (.int .i64 0), (.int .i64 0), (.int .i64 0)])]) = some ((.tuple ⟨[]⟩), (H1 ++ [some (Blk.mk .fix [(.int .i64 x0), (.int .i64 x1), (.int .i64 x2), (.int .i64 x3)])])))
 (.claim (opA (Plain.env tblC gK) (.len (.const l)) [] (H1 ++ [some (Blk.mk .fix [(.int .i64 x0), (.int .i64 x1), (.int .i64 x2), (.int .i64 x3)])]) = some ((.int .i64 n), (H1 ++ [some (Blk.mk .fix [(.int .i64 x0), (.int .i64 x1), (.int .i64 x2), (.int .i64 x3)])])))
 (.req (decide (n > 0)) (.claim (opA (Plain.env tblC gK) (.len (.const l)) [] (H1 ++ [some (Blk.mk .fix [(.int .i64 x0), (.int .i64 x1), (.int .i64 x2), (.int .i64 x3)])]) = some ((.int .i64 n), (H1 ++ [some (Blk.mk .fix [(.int .i64 x0), (.int .i64 x1), (.int .i64 x2), (.int .i64 x3)])])))
 (.req (preWithin 0 (IntKind.wrap .i64 (n - 1))) (.claim (opA (Plain.env tblC gK) (.append 5 40 (.const (.slice (some ⟨((H1 ++ [some (Blk.mk .fix [(.int .i64 x0), (.int .i64 x1), (.int .i64 x2), (.int .i64 x3)])])).length, 0, none⟩) 0 0)) (.const l)) [] ((H1 ++ [some (Blk.mk .fix [(.int .i64 x0), (.int .i64 x1), (.int .i64 x2), (.int .i64 x3)])]) ++ [some (Blk.mk .fix [])]) = some (lt, Hb))
 (.claim (opA (Plain.env tblC gK) (.iadr 5 none (.const lt) (.const (.int .i64 (wn a2 0 (IntKind.wrap .i64 (n - 1)))))) [] Hb = some ((.pointer (some ⟨b, (o + 0), none⟩)), Hb))
 (.claim (opA (Plain.env tblC gK) (.load (.const (.pointer (some ⟨b, (o + 3), none⟩))) none) [] Hb = some ((.int .i64 m), Hb))
 (.claim (opA (Plain.env tblC gK) (.iadr 5 none (.const lt) (.const (.int .i64 (wn a2 0 (IntKind.wrap .i64 (n - 1)))))) [] Hb = some ((.pointer (some ⟨b, (o + 0), none⟩)), Hb))
 (.claim (opA (Plain.env tblC gK) (.store (.const (.pointer (some ⟨b, (o + 3), none⟩))) (.const (.int .i64 (IntKind.wrap .i64 (m + 1)))) 1) [] Hb = some ((.tuple ⟨[]⟩), Hc3))
 (.claim (opA (Plain.env tblC gK) (.call 24 [(.const lt)]) [] Hc3 = some ((.agg ⟨[(.int .i64 y0), (.int .i64 y1), (.int .i64 y2), (.int .i64 y3)]⟩), Hc3))
 (.claim (opA (Plain.env tblC gK) (.store (.const (.pointer (some ⟨(Hc3).length, 0, none⟩))) (.const (.agg ⟨[(.int .i64 y0), (.int .i64 y1), (.int .i64 y2), (.int .i64 y3)]⟩)) 4) [] (Hc3 ++ [some (Blk.mk .fix [(.int .i64 0), (.int .i64 0), (.int .i64 0), (.int .i64 0)])]) = some ((.tuple ⟨[]⟩), (Hc3 ++ [some (Blk.mk .fix [(.int .i64 y0), (.int .i64 y1), (.int .i64 y2), (.int .i64 y3)])])))
 (.req true (.claim (opA (Plain.env tblC gK) (.load (.const (.pointer (some ⟨(Hc3).length, 0, none⟩))) none) [] (Hc3 ++ [some (Blk.mk .fix [(.int .i64 y0), (.int .i64 y1), (.int .i64 y2), (.int .i64 y3)])]) = some ((.int .i64 y0), (Hc3 ++ [some (Blk.mk .fix [(.int .i64 y0), (.int .i64 y1), (.int .i64 y2), (.int .i64 y3)])])))
 (.claim (opA (Plain.env tblC gK) (.load (.const (.pointer (some ⟨(H1).length, 0, none⟩))) none) [] (Hc3 ++ [some (Blk.mk .fix [(.int .i64 y0), (.int .i64 y1), (.int .i64 y2), (.int .i64 y3)])]) = some ((.int .i64 x0), (Hc3 ++ [some (Blk.mk .fix [(.int .i64 y0), (.int .i64 y1), (.int .i64 y2), (.int .i64 y3)])])))
 (.req (!(decide ((IntKind.wrap .i64 (y0 - x0)) > 0))) (.req true (.claim (opA (Plain.env tblC gK) (.load (.const (.pointer (some ⟨(Hc3).length, 1, none⟩))) none) [] (Hc3 ++ [some (Blk.mk .fix [(.int .i64 y0), (.int .i64 y1), (.int .i64 y2), (.int .i64 y3)])]) = some ((.int .i64 y1), (Hc3 ++ [some (Blk.mk .fix [(.int .i64 y0), (.int .i64 y1), (.int .i64 y2), (.int .i64 y3)])])))
 (.claim (opA (Plain.env tblC gK) (.load (.const (.pointer (some ⟨(H1).length, 1, none⟩))) none) [] (Hc3 ++ [some (Blk.mk .fix [(.int .i64 y0), (.int .i64 y1), (.int .i64 y2), (.int .i64 y3)])]) = some ((.int .i64 x1), (Hc3 ++ [some (Blk.mk .fix [(.int .i64 y0), (.int .i64 y1), (.int .i64 y2), (.int .i64 y3)])])))
 (.req (!(decide ((IntKind.wrap .i64 (y1 - x1)) > 0))) (.req true (.claim (opA (Plain.env tblC gK) (.load (.const (.pointer (some ⟨(Hc3).length, 2, none⟩))) none) [] (Hc3 ++ [some (Blk.mk .fix [(.int .i64 y0), (.int .i64 y1), (.int .i64 y2), (.int .i64 y3)])]) = some ((.int .i64 y2), (Hc3 ++ [some (Blk.mk .fix [(.int .i64 y0), (.int .i64 y1), (.int .i64 y2), (.int .i64 y3)])])))
 (.claim (opA (Plain.env tblC gK) (.load (.const (.pointer (some ⟨(H1).length, 2, none⟩))) none) [] (Hc3 ++ [some (Blk.mk .fix [(.int .i64 y0), (.int .i64 y1), (.int .i64 y2), (.int .i64 y3)])]) = some ((.int .i64 x2), (Hc3 ++ [some (Blk.mk .fix [(.int .i64 y0), (.int .i64 y1), (.int .i64 y2), (.int .i64 y3)])])))
 (.req (!(decide ((IntKind.wrap .i64 (y2 - x2)) > 0))) (.req true (.claim (opA (Plain.env tblC gK) (.load (.const (.pointer (some ⟨(Hc3).length, 3, none⟩))) none) [] (Hc3 ++ [some (Blk.mk .fix [(.int .i64 y0), (.int .i64 y1), (.int .i64 y2), (.int .i64 y3)])]) = some ((.int .i64 y3), (Hc3 ++ [some (Blk.mk .fix [(.int .i64 y0), (.int .i64 y1), (.int .i64 y2), (.int .i64 y3)])])))
 (.claim (opA (Plain.env tblC gK) (.load (.const (.pointer (some ⟨(H1).length, 3, none⟩))) none) [] (Hc3 ++ [some (Blk.mk .fix [(.int .i64 y0), (.int .i64 y1), (.int .i64 y2), (.int .i64 y3)])]) = some ((.int .i64 x3), (Hc3 ++ [some (Blk.mk .fix [(.int .i64 y0), (.int .i64 y1), (.int .i64 y2), (.int .i64 y3)])])))
 (.req (!(decide ((IntKind.wrap .i64 (y3 - x3)) > 0))) (.req true (.claim (opA (Plain.env tblC gK) (.load (.const (.pointer (some ⟨(Hc3).length, 0, none⟩))) (some 4)) [] (Hc3 ++ [some (Blk.mk .fix [(.int .i64 y0), (.int .i64 y1), (.int .i64 y2), (.int .i64 y3)])]) = some ((.agg ⟨[(.int .i64 y0), (.int .i64 y1), (.int .i64 y2), (.int .i64 y3)]⟩), (Hc3 ++ [some (Blk.mk .fix [(.int .i64 y0), (.int .i64 y1), (.int .i64 y2), (.int .i64 y3)])])))
 (.req true (.claim (opA (Plain.env tblC gK) (.load (.const (.pointer (some ⟨(H1).length, 0, none⟩))) (some 4)) [] (Hc3 ++ [some (Blk.mk .fix [(.int .i64 y0), (.int .i64 y1), (.int .i64 y2), (.int .i64 y3)])]) = some ((.agg ⟨[(.int .i64 x0), (.int .i64 x1), (.int .i64 x2), (.int .i64 x3)]⟩), (Hc3 ++ [some (Blk.mk .fix [(.int .i64 y0), (.int .i64 y1), (.int .i64 y2), (.int .i64 y3)])])))
 (.req true (.req (!((fromB ⟨y0, y1, y2, y3⟩ 0) != (fromB ⟨x0, x1, x2, x3⟩ 0))) (.req true (.claim (opA (Plain.env tblC gK) (.load (.const (.pointer (some ⟨(Hc3).length, 0, none⟩))) (some 4)) [] (Hc3 ++ [some (Blk.mk .fix [(.int .i64 y0), (.int .i64 y1), (.int .i64 y2), (.int .i64 y3)])]) = some ((.agg ⟨[(.int .i64 y0), (.int .i64 y1), (.int .i64 y2), (.int .i64 y3)]⟩), (Hc3 ++ [some (Blk.mk .fix [(.int .i64 y0), (.int .i64 y1), (.int .i64 y2), (.int .i64 y3)])])))
 (.req true (.claim (opA (Plain.env tblC gK) (.load (.const (.pointer (some ⟨(H1).length, 0, none⟩))) (some 4)) [] (Hc3 ++ [some (Blk.mk .fix [(.int .i64 y0), (.int .i64 y1), (.int .i64 y2), (.int .i64 y3)])]) = some ((.agg ⟨[(.int .i64 x0), (.int .i64 x1), (.int .i64 x2), (.int .i64 x3)]⟩), (Hc3 ++ [some (Blk.mk .fix [(.int .i64 y0), (.int .i64 y1), (.int .i64 y2), (.int .i64 y3)])])))
 (.req true (.req (!(decide ((fromB ⟨y0, y1, y2, y3⟩ 0) < (fromB ⟨x0, x1, x2, x3⟩ 0)))) (.req true (.claim (opA (Plain.env tblC gK) (.load (.const (.pointer (some ⟨(Hc3).length, 0, none⟩))) (some 4)) [] (Hc3 ++ [some (Blk.mk .fix [(.int .i64 y0), (.int .i64 y1), (.int .i64 y2), (.int .i64 y3)])]) = some ((.agg ⟨[(.int .i64 y0), (.int .i64 y1), (.int .i64 y2), (.int .i64 y3)]⟩), (Hc3 ++ [some (Blk.mk .fix [(.int .i64 y0), (.int .i64 y1), (.int .i64 y2), (.int .i64 y3)])])))
 (.req true (.claim (opA (Plain.env tblC gK) (.load (.const (.pointer (some ⟨(H1).length, 0, none⟩))) (some 4)) [] (Hc3 ++ [some (Blk.mk .fix [(.int .i64 y0), (.int .i64 y1), (.int .i64 y2), (.int .i64 y3)])]) = some ((.agg ⟨[(.int .i64 x0), (.int .i64 x1), (.int .i64 x2), (.int .i64 x3)]⟩), (Hc3 ++ [some (Blk.mk .fix [(.int .i64 y0), (.int .i64 y1), (.int .i64 y2), (.int .i64 y3)])])))
 (.req true (.req (!(decide ((fromB ⟨y0, y1, y2, y3⟩ 1) < (fromB ⟨x0, x1, x2, x3⟩ 1)))) (.req true (.claim (opA (Plain.env tblC gK) (.load (.const (.pointer (some ⟨(Hc3).length, 0, none⟩))) (some 4)) [] (Hc3 ++ [some (Blk.mk .fix [(.int .i64 y0), (.int .i64 y1), (.int .i64 y2), (.int .i64 y3)])]) = some ((.agg ⟨[(.int .i64 y0), (.int .i64 y1), (.int .i64 y2), (.int .i64 y3)]⟩), (Hc3 ++ [some (Blk.mk .fix [(.int .i64 y0), (.int .i64 y1), (.int .i64 y2), (.int .i64 y3)])])))
 (.req true (.claim (opA (Plain.env tblC gK) (.load (.const (.pointer (some ⟨(H1).length, 0, none⟩))) (some 4)) [] (Hc3 ++ [some (Blk.mk .fix [(.int .i64 y0), (.int .i64 y1), (.int .i64 y2), (.int .i64 y3)])]) = some ((.agg ⟨[(.int .i64 x0), (.int .i64 x1), (.int .i64 x2), (.int .i64 x3)]⟩), (Hc3 ++ [some (Blk.mk .fix [(.int .i64 y0), (.int .i64 y1), (.int .i64 y2), (.int .i64 y3)])])))
 (.req true (.req (!(decide ((fromB ⟨y0, y1, y2, y3⟩ 2) < (fromB ⟨x0, x1, x2, x3⟩ 2)))) (.req true (.claim (opA (Plain.env tblC gK) (.load (.const (.pointer (some ⟨(Hc3).length, 0, none⟩))) (some 4)) [] (Hc3 ++ [some (Blk.mk .fix [(.int .i64 y0), (.int .i64 y1), (.int .i64 y2), (.int .i64 y3)])]) = some ((.agg ⟨[(.int .i64 y0), (.int .i64 y1), (.int .i64 y2), (.int .i64 y3)]⟩), (Hc3 ++ [some (Blk.mk .fix [(.int .i64 y0), (.int .i64 y1), (.int .i64 y2), (.int .i64 y3)])])))
 (.req true (.claim (opA (Plain.env tblC gK) (.load (.const (.pointer (some ⟨(H1).length, 0, none⟩))) (some 4)) [] (Hc3 ++ [some (Blk.mk .fix [(.int .i64 y0), (.int .i64 y1), (.int .i64 y2), (.int .i64 y3)])]) = some ((.agg ⟨[(.int .i64 x0), (.int .i64 x1), (.int .i64 x2), (.int .i64 x3)]⟩), (Hc3 ++ [some (Blk.mk .fix [(.int .i64 y0), (.int .i64 y1), (.int .i64 y2), (.int .i64 y3)])])))
 (.req true (.req (!(decide ((fromB ⟨y0, y1, y2, y3⟩ 3) < (fromB ⟨x0, x1, x2, x3⟩ 3)))) (.req true (.claim (opA (Plain.env tblC gK) (.load (.const (.pointer (some ⟨(Hc3).length, 0, none⟩))) (some 4)) [] (Hc3 ++ [some (Blk.mk .fix [(.int .i64 y0), (.int .i64 y1), (.int .i64 y2), (.int .i64 y3)])]) = some ((.agg ⟨[(.int .i64 y0), (.int .i64 y1), (.int .i64 y2), (.int .i64 y3)]⟩), (Hc3 ++ [some (Blk.mk .fix [(.int .i64 y0), (.int .i64 y1), (.int .i64 y2), (.int .i64 y3)])])))
 (.req true (.claim (opA (Plain.env tblC gK) (.load (.const (.pointer (some ⟨(H1).length, 0, none⟩))) (some 4)) [] (Hc3 ++ [some (Blk.mk .fix [(.int .i64 y0), (.int .i64 y1), (.int .i64 y2), (.int .i64 y3)])]) = some ((.agg ⟨[(.int .i64 x0), (.int .i64 x1), (.int .i64 x2), (.int .i64 x3)]⟩), (Hc3 ++ [some (Blk.mk .fix [(.int .i64 y0), (.int .i64 y1), (.int .i64 y2), (.int .i64 y3)])])))
 (.req true (.req (!(decide ((fromB ⟨y0, y1, y2, y3⟩ 4) < (fromB ⟨x0, x1, x2, x3⟩ 4)))) (.claim (opA (Plain.env tblC gK) (.iadr 5 none (.const lt) (.const (.int .i64 (wn a2 0 (IntKind.wrap .i64 (n - 1)))))) [] (Hc3 ++ [some (Blk.mk .fix [(.int .i64 y0), (.int .i64 y1), (.int .i64 y2), (.int .i64 y3)])]) = some ((.pointer (some ⟨b, (o + 0), none⟩)), (Hc3 ++ [some (Blk.mk .fix [(.int .i64 y0), (.int .i64 y1), (.int .i64 y2), (.int .i64 y3)])])))
 (.claim (opA (Plain.env tblC gK) (.store (.const (.pointer (some ⟨b, (o + 1), none⟩))) (.const (.int .i64 0)) 1) [] (Hc3 ++ [some (Blk.mk .fix [(.int .i64 y0), (.int .i64 y1), (.int .i64 y2), (.int .i64 y3)])]) = some ((.tuple ⟨[]⟩), Hc1))
 (.req true (.claim (opA (Plain.env tblC gK) (.call 24 [(.const lt)]) [] Hc1 = some ((.agg ⟨[(.int .i64 z0), (.int .i64 z1), (.int .i64 z2), (.int .i64 z3)]⟩), Hc1))
 (.req true (.claim (opA (Plain.env tblC gK) (.load (.const (.pointer (some ⟨(H1).length, 0, none⟩))) (some 4)) [] Hc1 = some ((.agg ⟨[(.int .i64 x0), (.int .i64 x1), (.int .i64 x2), (.int .i64 x3)]⟩), Hc1))
 (.req true (.claim (opA (Plain.env tblC gK) (.iadr 5 none (.const l) (.const (.int .i64 (wn a2 0 (IntKind.wrap .i64 (n - 1)))))) [] Hc1 = some ((.pointer (some ⟨bl, (o + 0), none⟩)), Hc1))
 (.claim (opA (Plain.env tblC gK) (.load (.const (.pointer (some ⟨bl, (o + 1), none⟩))) none) [] Hc1 = some ((.int .i64 bal), Hc1))
 (.req (!((fromB ⟨z0, z1, z2, z3⟩ 0) != (IntKind.wrap .i64 ((fromB ⟨x0, x1, x2, x3⟩ 0) - bal)))) (.req true (.claim (opA (Plain.env tblC gK) (.load (.const (.pointer (some ⟨(H1).length, 0, none⟩))) (some 4)) [] Hc1 = some ((.agg ⟨[(.int .i64 x0), (.int .i64 x1), (.int .i64 x2), (.int .i64 x3)]⟩), Hc1))
 (.req true (.claim (opA (Plain.env tblC gK) (.load (.const (.pointer (some ⟨(H1).length, 0, none⟩))) (some 4)) [] Hc1 = some ((.agg ⟨[(.int .i64 x0), (.int .i64 x1), (.int .i64 x2), (.int .i64 x3)]⟩), Hc1))
 (.req true (.req (!(decide ((fromB ⟨x0, x1, x2, x3⟩ 0) < (fromB ⟨x0, x1, x2, x3⟩ 1)))) (.req true (.claim (opA (Plain.env tblC gK) (.load (.const (.pointer (some ⟨(H1).length, 0, none⟩))) (some 4)) [] Hc1 = some ((.agg ⟨[(.int .i64 x0), (.int .i64 x1), (.int .i64 x2), (.int .i64 x3)]⟩), Hc1))
 (.req true (.claim (opA (Plain.env tblC gK) (.load (.const (.pointer (some ⟨(H1).length, 0, none⟩))) (some 4)) [] Hc1 = some ((.agg ⟨[(.int .i64 x0), (.int .i64 x1), (.int .i64 x2), (.int .i64 x3)]⟩), Hc1))
 (.req true (.req (!(decide ((fromB ⟨x0, x1, x2, x3⟩ 1) < (fromB ⟨x0, x1, x2, x3⟩ 2)))) (.req true (.claim (opA (Plain.env tblC gK) (.load (.const (.pointer (some ⟨(H1).length, 0, none⟩))) (some 4)) [] Hc1 = some ((.agg ⟨[(.int .i64 x0), (.int .i64 x1), (.int .i64 x2), (.int .i64 x3)]⟩), Hc1))
 (.req true (.claim (opA (Plain.env tblC gK) (.load (.const (.pointer (some ⟨(H1).length, 0, none⟩))) (some 4)) [] Hc1 = some ((.agg ⟨[(.int .i64 x0), (.int .i64 x1), (.int .i64 x2), (.int .i64 x3)]⟩), Hc1))
 (.req true (.req (!(decide ((fromB ⟨x0, x1, x2, x3⟩ 2) < (fromB ⟨x0, x1, x2, x3⟩ 3)))) (.req true (.claim (opA (Plain.env tblC gK) (.load (.const (.pointer (some ⟨(H1).length, 0, none⟩))) (some 4)) [] Hc1 = some ((.agg ⟨[(.int .i64 x0), (.int .i64 x1), (.int .i64 x2), (.int .i64 x3)]⟩), Hc1))
 (.req true (.claim (opA (Plain.env tblC gK) (.load (.const (.pointer (some ⟨(H1).length, 0, none⟩))) (some 4)) [] Hc1 = some ((.agg ⟨[(.int .i64 x0), (.int .i64 x1), (.int .i64 x2), (.int .i64 x3)]⟩), Hc1))
 (.req true (.req (!(decide ((fromB ⟨x0, x1, x2, x3⟩ 3) < (fromB ⟨x0, x1, x2, x3⟩ 4)))) (.req true (.claim (opA (Plain.env tblC gK) (.load (.const (.pointer (some ⟨(H1).length, 0, none⟩))) (some 4)) [] Hc1 = some ((.agg ⟨[(.int .i64 x0), (.int .i64 x1), (.int .i64 x2), (.int .i64 x3)]⟩), Hc1))
 (.req true (.claim (opA (Plain.env tblC gK) (.load (.const (.pointer (some ⟨(H1).length, 0, none⟩))) (some 4)) [] Hc1 = some ((.agg ⟨[(.int .i64 x0), (.int .i64 x1), (.int .i64 x2), (.int .i64 x3)]⟩), Hc1))
 (.req true (.req (!(decide ((fromB ⟨x0, x1, x2, x3⟩ 4) < (fromB ⟨x0, x1, x2, x3⟩ 5)))) (.req true (.claim (opA (Plain.env tblC gK) (.load (.const (.pointer (some ⟨(H1).length, 0, none⟩))) (some 4)) [] Hc1 = some ((.agg ⟨[(.int .i64 x0), (.int .i64 x1), (.int .i64 x2), (.int .i64 x3)]⟩), Hc1))
 (.req true (.claim (opA (Plain.env tblC gK) (.load (.const (.pointer (some ⟨(H1).length, 0, none⟩))) (some 4)) [] Hc1 = some ((.agg ⟨[(.int .i64 x0), (.int .i64 x1), (.int .i64 x2), (.int .i64 x3)]⟩), Hc1))
 (.req true (.req ((fromB ⟨x0, x1, x2, x3⟩ (-1)) == (fromB ⟨x0, x1, x2, x3⟩ 0)) (.claim (opA (Plain.env tblC gK) (.load (.const (.pointer (some ⟨(H1).length, 0, none⟩))) (some 4)) [] Hc1 = some ((.agg ⟨[(.int .i64 x0), (.int .i64 x1), (.int .i64 x2), (.int .i64 x3)]⟩), Hc1))
 (.req true (.req ((fromB ⟨x0, x1, x2, x3⟩ 4) == 0) (.req true (.ret (pk .ret (fr 160 [(6, (.bool true))])) Hc1))))))))))))))))))))))))))))))))))))))))))))))))))))))))))))))))))))))))))))))))))))))))))))))))))))))))))))))))))))) := by kernel_rfl
def hn10k1 (s0 s1 l lt : Value) (a2 n m bal : Int) (b bl o : Nat) (x0 x1 x2 x3 : Int) (y0 y1 y2 y3 : Int) (z0 z1 z2 z3 : Int) (H H1 Hb Hc3 Hc1 : Heap) : Hj := (.lp 0 [2, 6, 7] (fr 160 [(2, (.int .i64 a2)), (6, (.bool false)), (7, l)]) H1 (.use 49 (.agg ⟨[(.int .i64 x0), (.int .i64 x1), (.int .i64 x2), (.int .i64 x3)]⟩) H1 (.use 9999 (.tuple ⟨[]⟩) (H1 ++ [some (Blk.mk .fix [(.int .i64 x0), (.int .i64 x1), (.int .i64 x2), (.int .i64 x3)])]) (.use 51 (.int .i64 n) (H1 ++ [some (Blk.mk .fix [(.int .i64 x0), (.int .i64 x1), (.int .i64 x2), (.int .i64 x3)])]) (.yes (.use 55 (.int .i64 n) (H1 ++ [some (Blk.mk .fix [(.int .i64 x0), (.int .i64 x1), (.int .i64 x2), (.int .i64 x3)])]) (.use 60 lt Hb (.use 63 (.pointer (some ⟨b, (o + 0), none⟩)) Hb (.use 65 (.int .i64 m) Hb (.use 67 (.pointer (some ⟨b, (o + 0), none⟩)) Hb (.use 9999 (.tuple ⟨[]⟩) Hc3 (.use 70 (.agg ⟨[(.int .i64 y0), (.int .i64 y1), (.int .i64 y2), (.int .i64 y3)]⟩) Hc3 (.use 9999 (.tuple ⟨[]⟩) (Hc3 ++ [some (Blk.mk .fix [(.int .i64 y0), (.int .i64 y1), (.int .i64 y2), (.int .i64 y3)])]) (.con (.use 76 (.int .i64 y0) (Hc3 ++ [some (Blk.mk .fix [(.int .i64 y0), (.int .i64 y1), (.int .i64 y2), (.int .i64 y3)])]) (.use 79 (.int .i64 x0) (Hc3 ++ [some (Blk.mk .fix [(.int .i64 y0), (.int .i64 y1), (.int .i64 y2), (.int .i64 y3)])]) (.no (.con (.use 76 (.int .i64 y1) (Hc3 ++ [some (Blk.mk .fix [(.int .i64 y0), (.int .i64 y1), (.int .i64 y2), (.int .i64 y3)])]) (.use 79 (.int .i64 x1) (Hc3 ++ [some (Blk.mk .fix [(.int .i64 y0), (.int .i64 y1), (.int .i64 y2), (.int .i64 y3)])]) (.yes (.con (.use 76 (.int .i64 y2) (Hc3 ++ [some (Blk.mk .fix [(.int .i64 y0), (.int .i64 y1), (.int .i64 y2), (.int .i64 y3)])]) (.use 79 (.int .i64 x2) (Hc3 ++ [some (Blk.mk .fix [(.int .i64 y0), (.int .i64 y1), (.int .i64 y2), (.int .i64 y3)])]) (.no (.con (.use 76 (.int .i64 y3) (Hc3 ++ [some (Blk.mk .fix [(.int .i64 y0), (.int .i64 y1), (.int .i64 y2), (.int .i64 y3)])]) (.use 79 (.int .i64 x3) (Hc3 ++ [some (Blk.mk .fix [(.int .i64 y0), (.int .i64 y1), (.int .i64 y2), (.int .i64 y3)])]) (.no (.con (.use 87 (.agg ⟨[(.int .i64 y0), (.int .i64 y1), (.int .i64 y2), (.int .i64 y3)]⟩) (Hc3 ++ [some (Blk.mk .fix [(.int .i64 y0), (.int .i64 y1), (.int .i64 y2), (.int .i64 y3)])]) (.use 89 (.agg ⟨[(.int .i64 x0), (.int .i64 x1), (.int .i64 x2), (.int .i64 x3)]⟩) (Hc3 ++ [some (Blk.mk .fix [(.int .i64 y0), (.int .i64 y1), (.int .i64 y2), (.int .i64 y3)])]) (.no (.con (.con (.yes (.con (.con (.con (.use 99 (.pointer (some ⟨b, (o + 0), none⟩)) (Hc3 ++ [some (Blk.mk .fix [(.int .i64 y0), (.int .i64 y1), (.int .i64 y2), (.int .i64 y3)])]) (.con (.con (.con (.use 102 (.int .i64 bal) (Hc3 ++ [some (Blk.mk .fix [(.int .i64 y0), (.int .i64 y1), (.int .i64 y2), (.int .i64 y3)])]) (.con (.con (.con (.con (.no (.con (.use 110 (.agg ⟨[(.int .i64 y0), (.int .i64 y1), (.int .i64 y2), (.int .i64 y3)]⟩) (Hc3 ++ [some (Blk.mk .fix [(.int .i64 y0), (.int .i64 y1), (.int .i64 y2), (.int .i64 y3)])]) (.use 113 (.agg ⟨[(.int .i64 x0), (.int .i64 x1), (.int .i64 x2), (.int .i64 x3)]⟩) (Hc3 ++ [some (Blk.mk .fix [(.int .i64 y0), (.int .i64 y1), (.int .i64 y2), (.int .i64 y3)])]) (.no (.con (.use 110 (.agg ⟨[(.int .i64 y0), (.int .i64 y1), (.int .i64 y2), (.int .i64 y3)]⟩) (Hc3 ++ [some (Blk.mk .fix [(.int .i64 y0), (.int .i64 y1), (.int .i64 y2), (.int .i64 y3)])]) (.use 113 (.agg ⟨[(.int .i64 x0), (.int .i64 x1), (.int .i64 x2), (.int .i64 x3)]⟩) (Hc3 ++ [some (Blk.mk .fix [(.int .i64 y0), (.int .i64 y1), (.int .i64 y2), (.int .i64 y3)])]) (.no (.con (.use 110 (.agg ⟨[(.int .i64 y0), (.int .i64 y1), (.int .i64 y2), (.int .i64 y3)]⟩) (Hc3 ++ [some (Blk.mk .fix [(.int .i64 y0), (.int .i64 y1), (.int .i64 y2), (.int .i64 y3)])]) (.use 113 (.agg ⟨[(.int .i64 x0), (.int .i64 x1), (.int .i64 x2), (.int .i64 x3)]⟩) (Hc3 ++ [some (Blk.mk .fix [(.int .i64 y0), (.int .i64 y1), (.int .i64 y2), (.int .i64 y3)])]) (.no (.con (.use 110 (.agg ⟨[(.int .i64 y0), (.int .i64 y1), (.int .i64 y2), (.int .i64 y3)]⟩) (Hc3 ++ [some (Blk.mk .fix [(.int .i64 y0), (.int .i64 y1), (.int .i64 y2), (.int .i64 y3)])]) (.use 113 (.agg ⟨[(.int .i64 x0), (.int .i64 x1), (.int .i64 x2), (.int .i64 x3)]⟩) (Hc3 ++ [some (Blk.mk .fix [(.int .i64 y0), (.int .i64 y1), (.int .i64 y2), (.int .i64 y3)])]) (.no (.con (.use 110 (.agg ⟨[(.int .i64 y0), (.int .i64 y1), (.int .i64 y2), (.int .i64 y3)]⟩) (Hc3 ++ [some (Blk.mk .fix [(.int .i64 y0), (.int .i64 y1), (.int .i64 y2), (.int .i64 y3)])]) (.use 113 (.agg ⟨[(.int .i64 x0), (.int .i64 x1), (.int .i64 x2), (.int .i64 x3)]⟩) (Hc3 ++ [some (Blk.mk .fix [(.int .i64 y0), (.int .i64 y1), (.int .i64 y2), (.int .i64 y3)])]) (.no (.con (.use 119 (.pointer (some ⟨b, (o + 0), none⟩)) (Hc3 ++ [some (Blk.mk .fix [(.int .i64 y0), (.int .i64 y1), (.int .i64 y2), (.int .i64 y3)])]) (.use 9999 (.tuple ⟨[]⟩) Hc1 (.use 123 (.agg ⟨[(.int .i64 z0), (.int .i64 z1), (.int .i64 z2), (.int .i64 z3)]⟩) Hc1 (.use 125 (.agg ⟨[(.int .i64 x0), (.int .i64 x1), (.int .i64 x2), (.int .i64 x3)]⟩) Hc1 (.use 129 (.pointer (some ⟨bl, (o + 0), none⟩)) Hc1 (.use 132 (.int .i64 bal) Hc1 (.no (.con (.use 139 (.agg ⟨[(.int .i64 x0), (.int .i64 x1), (.int .i64 x2), (.int .i64 x3)]⟩) Hc1 (.use 142 (.agg ⟨[(.int .i64 x0), (.int .i64 x1), (.int .i64 x2), (.int .i64 x3)]⟩) Hc1 (.no (.con (.use 139 (.agg ⟨[(.int .i64 x0), (.int .i64 x1), (.int .i64 x2), (.int .i64 x3)]⟩) Hc1 (.use 142 (.agg ⟨[(.int .i64 x0), (.int .i64 x1), (.int .i64 x2), (.int .i64 x3)]⟩) Hc1 (.no (.con (.use 139 (.agg ⟨[(.int .i64 x0), (.int .i64 x1), (.int .i64 x2), (.int .i64 x3)]⟩) Hc1 (.use 142 (.agg ⟨[(.int .i64 x0), (.int .i64 x1), (.int .i64 x2), (.int .i64 x3)]⟩) Hc1 (.no (.con (.use 139 (.agg ⟨[(.int .i64 x0), (.int .i64 x1), (.int .i64 x2), (.int .i64 x3)]⟩) Hc1 (.use 142 (.agg ⟨[(.int .i64 x0), (.int .i64 x1), (.int .i64 x2), (.int .i64 x3)]⟩) Hc1 (.no (.con (.use 139 (.agg ⟨[(.int .i64 x0), (.int .i64 x1), (.int .i64 x2), (.int .i64 x3)]⟩) Hc1 (.use 142 (.agg ⟨[(.int .i64 x0), (.int .i64 x1), (.int .i64 x2), (.int .i64 x3)]⟩) Hc1 (.no (.con (.use 147 (.agg ⟨[(.int .i64 x0), (.int .i64 x1), (.int .i64 x2), (.int .i64 x3)]⟩) Hc1 (.use 149 (.agg ⟨[(.int .i64 x0), (.int .i64 x1), (.int .i64 x2), (.int .i64 x3)]⟩) Hc1 (.yes (.use 153 (.agg ⟨[(.int .i64 x0), (.int .i64 x1), (.int .i64 x2), (.int .i64 x3)]⟩) Hc1 (.con (.con (.con (.yes (.con .nil)))))))))))))))))))))))))))))))))))))))))))))))))))))))))))))))))))))))))))))))))))))))))))))))))))))))))))
theorem tree10k1 (s0 s1 l lt : Value) (a2 n m bal : Int) (b bl o : Nat) (x0 x1 x2 x3 : Int) (y0 y1 y2 y3 : Int) (z0 z1 z2 z3 : Int) (H H1 Hb Hc3 Hc1 : Heap) : pieceT tblC gK 200 (resLv [.tmp 6]) il10.body (hn10k1 s0 s1 l lt a2 n m bal b bl o x0 x1 x2 x3 y0 y1 y2 y3 z0 z1 z2 z3 H H1 Hb Hc3 Hc1) (fr 160 [(0, s0), (1, s1), (2, (.int .i64 a2))]) H =
(.claim (Wp (Plain.env tblC gK) (inL [2, 6, 7]) (.block 0 (.loop body10_0)) (fr 160 [(0, s0), (1, s1), (2, (.int .i64 a2)), (6, (.bool false)), (7, (.slice none 0 0)), (8, (.int .i64 0))]) H fun e s h' => e = .normal ∧ s = (fr 160 [(2, (.int .i64 a2)), (6, (.bool false)), (7, l)]) ∧ h' = H1)
 (.claim (opA (Plain.env tblC gK) (.call 24 [(.const l)]) [] H1 = some ((.agg ⟨[(.int .i64 x0), (.int .i64 x1), (.int .i64 x2), (.int .i64 x3)]⟩), H1))
 (.claim (opA (Plain.env tblC gK) (.store (.const (.pointer (some ⟨(H1).length, 0, none⟩))) (.const (.agg ⟨[(.int .i64 x0), (.int .i64 x1), (.int .i64 x2), (.int .i64 x3)]⟩)) 4) [] (H1 ++ [some (Blk.mk .fix [(.int .i64 0), (.int .i64 0), (.int .i64 0), (.int .i64 0)])]) = some ((.tuple ⟨[]⟩), (H1 ++ [some (Blk.mk .fix [(.int .i64 x0), (.int .i64 x1), (.int .i64 x2), (.int .i64 x3)])])))
 (.claim (opA (Plain.env tblC gK) (.len (.const l)) [] (H1 ++ [some (Blk.mk .fix [(.int .i64 x0), (.int .i64 x1), (.int .i64 x2), (.int .i64 x3)])]) = some ((.int .i64 n), (H1 ++ [some (Blk.mk .fix [(.int .i64 x0), (.int .i64 x1), (.int .i64 x2), (.int .i64 x3)])])))
 (.req (decide (n > 0)) (.claim (opA (Plain.env tblC gK) (.len (.const l)) [] (H1 ++ [some (Blk.mk .fix [(.int .i64 x0), (.int .i64 x1), (.int .i64 x2), (.int .i64 x3)])]) = some ((.int .i64 n), (H1 ++ [some (Blk.mk .fix [(.int .i64 x0), (.int .i64 x1), (.int .i64 x2), (.int .i64 x3)])])))
 (.req (preWithin 0 (IntKind.wrap .i64 (n - 1))) (.claim (opA (Plain.env tblC gK) (.append 5 40 (.const (.slice (some ⟨((H1 ++ [some (Blk.mk .fix [(.int .i64 x0), (.int .i64 x1), (.int .i64 x2), (.int .i64 x3)])])).length, 0, none⟩) 0 0)) (.const l)) [] ((H1 ++ [some (Blk.mk .fix [(.int .i64 x0), (.int .i64 x1), (.int .i64 x2), (.int .i64 x3)])]) ++ [some (Blk.mk .fix [])]) = some (lt, Hb))
 (.claim (opA (Plain.env tblC gK) (.iadr 5 none (.const lt) (.const (.int .i64 (wn a2 0 (IntKind.wrap .i64 (n - 1)))))) [] Hb = some ((.pointer (some ⟨b, (o + 0), none⟩)), Hb))
 (.claim (opA (Plain.env tblC gK) (.load (.const (.pointer (some ⟨b, (o + 3), none⟩))) none) [] Hb = some ((.int .i64 m), Hb))
 (.claim (opA (Plain.env tblC gK) (.iadr 5 none (.const lt) (.const (.int .i64 (wn a2 0 (IntKind.wrap .i64 (n - 1)))))) [] Hb = some ((.pointer (some ⟨b, (o + 0), none⟩)), Hb))
 (.claim (opA (Plain.env tblC gK) (.store (.const (.pointer (some ⟨b, (o + 3), none⟩))) (.const (.int .i64 (IntKind.wrap .i64 (m + 1)))) 1) [] Hb = some ((.tuple ⟨[]⟩), Hc3))
 (.claim (opA (Plain.env tblC gK) (.call 24 [(.const lt)]) [] Hc3 = some ((.agg ⟨[(.int .i64 y0), (.int .i64 y1), (.int .i64 y2), (.int .i64 y3)]⟩), Hc3))
 (.claim (opA (Plain.env tblC gK) (.store (.const (.pointer (some ⟨(Hc3).length, 0, none⟩))) (.const (.agg ⟨[(.int .i64 y0), (.int .i64 y1), (.int .i64 y2), (.int .i64 y3)]⟩)) 4) [] (Hc3 ++ [some (Blk.mk .fix [(.int .i64 0), (.int .i64 0), (.int .i64 0), (.int .i64 0)])]) = some ((.tuple ⟨[]⟩), (Hc3 ++ [some (Blk.mk .fix [(.int .i64 y0), (.int .i64 y1), (.int .i64 y2), (.int .i64 y3)])])))
 (.req true (.claim (opA (Plain.env tblC gK) (.load (.const (.pointer (some ⟨(Hc3).length, 0, none⟩))) none) [] (Hc3 ++ [some (Blk.mk .fix [(.int .i64 y0), (.int .i64 y1), (.int .i64 y2), (.int .i64 y3)])]) = some ((.int .i64 y0), (Hc3 ++ [some (Blk.mk .fix [(.int .i64 y0), (.int .i64 y1), (.int .i64 y2), (.int .i64 y3)])])))
 (.claim (opA (Plain.env tblC gK) (.load (.const (.pointer (some ⟨(H1).length, 0, none⟩))) none) [] (Hc3 ++ [some (Blk.mk .fix [(.int .i64 y0), (.int .i64 y1), (.int .i64 y2), (.int .i64 y3)])]) = some ((.int .i64 x0), (Hc3 ++ [some (Blk.mk .fix [(.int .i64 y0), (.int .i64 y1), (.int .i64 y2), (.int .i64 y3)])])))
 (.req (!(decide ((IntKind.wrap .i64 (y0 - x0)) > 0))) (.req true (.claim (opA (Plain.env tblC gK) (.load (.const (.pointer (some ⟨(Hc3).length, 1, none⟩))) none) [] (Hc3 ++ [some (Blk.mk .fix [(.int .i64 y0), (.int .i64 y1), (.int .i64 y2), (.int .i64 y3)])]) = some ((.int .i64 y1), (Hc3 ++ [some (Blk.mk .fix [(.int .i64 y0), (.int .i64 y1), (.int .i64 y2), (.int .i64 y3)])])))
 (.claim (opA (Plain.env tblC gK) (.load (.const (.pointer (some ⟨(H1).length, 1, none⟩))) none) [] (Hc3 ++ [some (Blk.mk .fix [(.int .i64 y0), (.int .i64 y1), (.int .i64 y2), (.int .i64 y3)])]) = some ((.int .i64 x1), (Hc3 ++ [some (Blk.mk .fix [(.int .i64 y0), (.int .i64 y1), (.int .i64 y2), (.int .i64 y3)])])))
 (.req (decide ((IntKind.wrap .i64 (y1 - x1)) > 0)) (.req true (.claim (opA (Plain.env tblC gK) (.load (.const (.pointer (some ⟨(Hc3).length, 2, none⟩))) none) [] (Hc3 ++ [some (Blk.mk .fix [(.int .i64 y0), (.int .i64 y1), (.int .i64 y2), (.int .i64 y3)])]) = some ((.int .i64 y2), (Hc3 ++ [some (Blk.mk .fix [(.int .i64 y0), (.int .i64 y1), (.int .i64 y2), (.int .i64 y3)])])))
 (.claim (opA (Plain.env tblC gK) (.load (.const (.pointer (some ⟨(H1).length, 2, none⟩))) none) [] (Hc3 ++ [some (Blk.mk .fix [(.int .i64 y0), (.int .i64 y1), (.int .i64 y2), (.int .i64 y3)])]) = some ((.int .i64 x2), (Hc3 ++ [some (Blk.mk .fix [(.int .i64 y0), (.int .i64 y1), (.int .i64 y2), (.int .i64 y3)])])))
 (.req (!(decide ((IntKind.wrap .i64 (y2 - x2)) > 0))) (.req true (.claim (opA (Plain.env tblC gK) (.load (.const (.pointer (some ⟨(Hc3).length, 3, none⟩))) none) [] (Hc3 ++ [some (Blk.mk .fix [(.int .i64 y0), (.int .i64 y1), (.int .i64 y2), (.int .i64 y3)])]) = some ((.int .i64 y3), (Hc3 ++ [some (Blk.mk .fix [(.int .i64 y0), (.int .i64 y1), (.int .i64 y2), (.int .i64 y3)])])))
 (.claim (opA (Plain.env tblC gK) (.load (.const (.pointer (some ⟨(H1).length, 3, none⟩))) none) [] (Hc3 ++ [some (Blk.mk .fix [(.int .i64 y0), (.int .i64 y1), (.int .i64 y2), (.int .i64 y3)])]) = some ((.int .i64 x3), (Hc3 ++ [some (Blk.mk .fix [(.int .i64 y0), (.int .i64 y1), (.int .i64 y2), (.int .i64 y3)])])))
 (.req (!(decide ((IntKind.wrap .i64 (y3 - x3)) > 0))) (.req true (.claim (opA (Plain.env tblC gK) (.load (.const (.pointer (some ⟨(Hc3).length, 0, none⟩))) (some 4)) [] (Hc3 ++ [some (Blk.mk .fix [(.int .i64 y0), (.int .i64 y1), (.int .i64 y2), (.int .i64 y3)])]) = some ((.agg ⟨[(.int .i64 y0), (.int .i64 y1), (.int .i64 y2), (.int .i64 y3)]⟩), (Hc3 ++ [some (Blk.mk .fix [(.int .i64 y0), (.int .i64 y1), (.int .i64 y2), (.int .i64 y3)])])))
 (.req true (.claim (opA (Plain.env tblC gK) (.load (.const (.pointer (some ⟨(H1).length, 0, none⟩))) (some 4)) [] (Hc3 ++ [some (Blk.mk .fix [(.int .i64 y0), (.int .i64 y1), (.int .i64 y2), (.int .i64 y3)])]) = some ((.agg ⟨[(.int .i64 x0), (.int .i64 x1), (.int .i64 x2), (.int .i64 x3)]⟩), (Hc3 ++ [some (Blk.mk .fix [(.int .i64 y0), (.int .i64 y1), (.int .i64 y2), (.int .i64 y3)])])))
 (.req true (.req (!((fromB ⟨y0, y1, y2, y3⟩ 0) != (fromB ⟨x0, x1, x2, x3⟩ 0))) (.req ((IntKind.wrap .i64 (0 + (IntKind.wrap .i64 (y1 - x1)))) != 0) (.claim (opA (Plain.env tblC gK) (.iadr 5 none (.const lt) (.const (.int .i64 (wn a2 0 (IntKind.wrap .i64 (n - 1)))))) [] (Hc3 ++ [some (Blk.mk .fix [(.int .i64 y0), (.int .i64 y1), (.int .i64 y2), (.int .i64 y3)])]) = some ((.pointer (some ⟨b, (o + 0), none⟩)), (Hc3 ++ [some (Blk.mk .fix [(.int .i64 y0), (.int .i64 y1), (.int .i64 y2), (.int .i64 y3)])])))
 (.claim (opA (Plain.env tblC gK) (.load (.const (.pointer (some ⟨b, (o + 1), none⟩))) none) [] (Hc3 ++ [some (Blk.mk .fix [(.int .i64 y0), (.int .i64 y1), (.int .i64 y2), (.int .i64 y3)])]) = some ((.int .i64 bal), (Hc3 ++ [some (Blk.mk .fix [(.int .i64 y0), (.int .i64 y1), (.int .i64 y2), (.int .i64 y3)])])))
 (.req (!((IntKind.wrap .i64 (0 + (IntKind.wrap .i64 (y1 - x1)))) != bal)) (.req true (.claim (opA (Plain.env tblC gK) (.load (.const (.pointer (some ⟨(Hc3).length, 0, none⟩))) (some 4)) [] (Hc3 ++ [some (Blk.mk .fix [(.int .i64 y0), (.int .i64 y1), (.int .i64 y2), (.int .i64 y3)])]) = some ((.agg ⟨[(.int .i64 y0), (.int .i64 y1), (.int .i64 y2), (.int .i64 y3)]⟩), (Hc3 ++ [some (Blk.mk .fix [(.int .i64 y0), (.int .i64 y1), (.int .i64 y2), (.int .i64 y3)])])))
 (.req true (.claim (opA (Plain.env tblC gK) (.load (.const (.pointer (some ⟨(H1).length, 0, none⟩))) (some 4)) [] (Hc3 ++ [some (Blk.mk .fix [(.int .i64 y0), (.int .i64 y1), (.int .i64 y2), (.int .i64 y3)])]) = some ((.agg ⟨[(.int .i64 x0), (.int .i64 x1), (.int .i64 x2), (.int .i64 x3)]⟩), (Hc3 ++ [some (Blk.mk .fix [(.int .i64 y0), (.int .i64 y1), (.int .i64 y2), (.int .i64 y3)])])))
 (.req true (.req (!(decide ((fromB ⟨y0, y1, y2, y3⟩ 0) < (fromB ⟨x0, x1, x2, x3⟩ 0)))) (.req true (.claim (opA (Plain.env tblC gK) (.load (.const (.pointer (some ⟨(Hc3).length, 0, none⟩))) (some 4)) [] (Hc3 ++ [some (Blk.mk .fix [(.int .i64 y0), (.int .i64 y1), (.int .i64 y2), (.int .i64 y3)])]) = some ((.agg ⟨[(.int .i64 y0), (.int .i64 y1), (.int .i64 y2), (.int .i64 y3)]⟩), (Hc3 ++ [some (Blk.mk .fix [(.int .i64 y0), (.int .i64 y1), (.int .i64 y2), (.int .i64 y3)])])))
 (.req true (.claim (opA (Plain.env tblC gK) (.load (.const (.pointer (some ⟨(H1).length, 0, none⟩))) (some 4)) [] (Hc3 ++ [some (Blk.mk .fix [(.int .i64 y0), (.int .i64 y1), (.int .i64 y2), (.int .i64 y3)])]) = some ((.agg ⟨[(.int .i64 x0), (.int .i64 x1), (.int .i64 x2), (.int .i64 x3)]⟩), (Hc3 ++ [some (Blk.mk .fix [(.int .i64 y0), (.int .i64 y1), (.int .i64 y2), (.int .i64 y3)])])))
 (.req true (.req (!(decide ((fromB ⟨y0, y1, y2, y3⟩ 1) < (fromB ⟨x0, x1, x2, x3⟩ 1)))) (.req true (.claim (opA (Plain.env tblC gK) (.load (.const (.pointer (some ⟨(Hc3).length, 0, none⟩))) (some 4)) [] (Hc3 ++ [some (Blk.mk .fix [(.int .i64 y0), (.int .i64 y1), (.int .i64 y2), (.int .i64 y3)])]) = some ((.agg ⟨[(.int .i64 y0), (.int .i64 y1), (.int .i64 y2), (.int .i64 y3)]⟩), (Hc3 ++ [some (Blk.mk .fix [(.int .i64 y0), (.int .i64 y1), (.int .i64 y2), (.int .i64 y3)])])))
 (.req true (.claim (opA (Plain.env tblC gK) (.load (.const (.pointer (some ⟨(H1).length, 0, none⟩))) (some 4)) [] (Hc3 ++ [some (Blk.mk .fix [(.int .i64 y0), (.int .i64 y1), (.int .i64 y2), (.int .i64 y3)])]) = some ((.agg ⟨[(.int .i64 x0), (.int .i64 x1), (.int .i64 x2), (.int .i64 x3)]⟩), (Hc3 ++ [some (Blk.mk .fix [(.int .i64 y0), (.int .i64 y1), (.int .i64 y2), (.int .i64 y3)])])))
 (.req true (.req (!(decide ((fromB ⟨y0, y1, y2, y3⟩ 2) < (fromB ⟨x0, x1, x2, x3⟩ 2)))) (.req true (.claim (opA (Plain.env tblC gK) (.load (.const (.pointer (some ⟨(Hc3).length, 0, none⟩))) (some 4)) [] (Hc3 ++ [some (Blk.mk .fix [(.int .i64 y0), (.int .i64 y1), (.int .i64 y2), (.int .i64 y3)])]) = some ((.agg ⟨[(.int .i64 y0), (.int .i64 y1), (.int .i64 y2), (.int .i64 y3)]⟩), (Hc3 ++ [some (Blk.mk .fix [(.int .i64 y0), (.int .i64 y1), (.int .i64 y2), (.int .i64 y3)])])))
 (.req true (.claim (opA (Plain.env tblC gK) (.load (.const (.pointer (some ⟨(H1).length, 0, none⟩))) (some 4)) [] (Hc3 ++ [some (Blk.mk .fix [(.int .i64 y0), (.int .i64 y1), (.int .i64 y2), (.int .i64 y3)])]) = some ((.agg ⟨[(.int .i64 x0), (.int .i64 x1), (.int .i64 x2), (.int .i64 x3)]⟩), (Hc3 ++ [some (Blk.mk .fix [(.int .i64 y0), (.int .i64 y1), (.int .i64 y2), (.int .i64 y3)])])))
 (.req true (.req (!(decide ((fromB ⟨y0, y1, y2, y3⟩ 3) < (fromB ⟨x0, x1, x2, x3⟩ 3)))) (.req true (.claim (opA (Plain.env tblC gK) (.load (.const (.pointer (some ⟨(Hc3).length, 0, none⟩))) (some 4)) [] (Hc3 ++ [some (Blk.mk .fix [(.int .i64 y0), (.int .i64 y1), (.int .i64 y2), (.int .i64 y3)])]) = some ((.agg ⟨[(.int .i64 y0), (.int .i64 y1), (.int .i64 y2), (.int .i64 y3)]⟩), (Hc3 ++ [some (Blk.mk .fix [(.int .i64 y0), (.int .i64 y1), (.int .i64 y2), (.int .i64 y3)])])))
 (.req true (.claim (opA (Plain.env tblC gK) (.load (.const (.pointer (some ⟨(H1).length, 0, none⟩))) (some 4)) [] (Hc3 ++ [some (Blk.mk .fix [(.int .i64 y0), (.int .i64 y1), (.int .i64 y2), (.int .i64 y3)])]) = some ((.agg ⟨[(.int .i64 x0), (.int .i64 x1), (.int .i64 x2), (.int .i64 x3)]⟩), (Hc3 ++ [some (Blk.mk .fix [(.int .i64 y0), (.int .i64 y1), (.int .i64 y2), (.int .i64 y3)])])))
 (.req true (.req (!(decide ((fromB ⟨y0, y1, y2, y3⟩ 4) < (fromB ⟨x0, x1, x2, x3⟩ 4)))) (.claim (opA (Plain.env tblC gK) (.iadr 5 none (.const lt) (.const (.int .i64 (wn a2 0 (IntKind.wrap .i64 (n - 1)))))) [] (Hc3 ++ [some (Blk.mk .fix [(.int .i64 y0), (.int .i64 y1), (.int .i64 y2), (.int .i64 y3)])]) = some ((.pointer (some ⟨b, (o + 0), none⟩)), (Hc3 ++ [some (Blk.mk .fix [(.int .i64 y0), (.int .i64 y1), (.int .i64 y2), (.int .i64 y3)])])))
 (.claim (opA (Plain.env tblC gK) (.store (.const (.pointer (some ⟨b, (o + 1), none⟩))) (.const (.int .i64 0)) 1) [] (Hc3 ++ [some (Blk.mk .fix [(.int .i64 y0), (.int .i64 y1), (.int .i64 y2), (.int .i64 y3)])]) = some ((.tuple ⟨[]⟩), Hc1))
 (.req true (.claim (opA (Plain.env tblC gK) (.call 24 [(.const lt)]) [] Hc1 = some ((.agg ⟨[(.int .i64 z0), (.int .i64 z1), (.int .i64 z2), (.int .i64 z3)]⟩), Hc1))
 (.req true (.claim (opA (Plain.env tblC gK) (.load (.const (.pointer (some ⟨(H1).length, 0, none⟩))) (some 4)) [] Hc1 = some ((.agg ⟨[(.int .i64 x0), (.int .i64 x1), (.int .i64 x2), (.int .i64 x3)]⟩), Hc1))
 (.req true (.claim (opA (Plain.env tblC gK) (.iadr 5 none (.const l) (.const (.int .i64 (wn a2 0 (IntKind.wrap .i64 (n - 1)))))) [] Hc1 = some ((.pointer (some ⟨bl, (o + 0), none⟩)), Hc1))
 (.claim (opA (Plain.env tblC gK) (.load (.const (.pointer (some ⟨bl, (o + 1), none⟩))) none) [] Hc1 = some ((.int .i64 bal), Hc1))
 (.req (!((fromB ⟨z0, z1, z2, z3⟩ 0) != (IntKind.wrap .i64 ((fromB ⟨x0, x1, x2, x3⟩ 0) - bal)))) (.req true (.claim (opA (Plain.env tblC gK) (.load (.const (.pointer (some ⟨(H1).length, 0, none⟩))) (some 4)) [] Hc1 = some ((.agg ⟨[(.int .i64 x0), (.int .i64 x1), (.int .i64 x2), (.int .i64 x3)]⟩), Hc1))
 (.req true (.claim (opA (Plain.env tblC gK) (.load (.const (.pointer (some ⟨(H1).length, 0, none⟩))) (some 4)) [] Hc1 = some ((.agg ⟨[(.int .i64 x0), (.int .i64 x1), (.int .i64 x2), (.int .i64 x3)]⟩), Hc1))
 (.req true (.req (!(decide ((fromB ⟨x0, x1, x2, x3⟩ 0) < (fromB ⟨x0, x1, x2, x3⟩ 1)))) (.req true (.claim (opA (Plain.env tblC gK) (.load (.const (.pointer (some ⟨(H1).length, 0, none⟩))) (some 4)) [] Hc1 = some ((.agg ⟨[(.int .i64 x0), (.int .i64 x1), (.int .i64 x2), (.int .i64 x3)]⟩), Hc1))
 (.req true (.claim (opA (Plain.env tblC gK) (.load (.const (.pointer (some ⟨(H1).length, 0, none⟩))) (some 4)) [] Hc1 = some ((.agg ⟨[(.int .i64 x0), (.int .i64 x1), (.int .i64 x2), (.int .i64 x3)]⟩), Hc1))
 (.req true (.req (!(decide ((fromB ⟨x0, x1, x2, x3⟩ 1) < (fromB ⟨x0, x1, x2, x3⟩ 2)))) (.req true (.claim (opA (Plain.env tblC gK) (.load (.const (.pointer (some ⟨(H1).length, 0, none⟩))) (some 4)) [] Hc1 = some ((.agg ⟨[(.int .i64 x0), (.int .i64 x1), (.int .i64 x2), (.int .i64 x3)]⟩), Hc1))
 (.req true (.claim (opA (Plain.env tblC gK) (.load (.const (.pointer (some ⟨(H1).length, 0, none⟩))) (some 4)) [] Hc1 = some ((.agg ⟨[(.int .i64 x0), (.int .i64 x1), (.int .i64 x2), (.int .i64 x3)]⟩), Hc1))
 (.req true (.req (!(decide ((fromB ⟨x0, x1, x2, x3⟩ 2) < (fromB ⟨x0, x1, x2, x3⟩ 3)))) (.req true (.claim (opA (Plain.env tblC gK) (.load (.const (.pointer (some ⟨(H1).length, 0, none⟩))) (some 4)) [] Hc1 = some ((.agg ⟨[(.int .i64 x0), (.int .i64 x1), (.int .i64 x2), (.int .i64 x3)]⟩), Hc1))
 (.req true (.claim (opA (Plain.env tblC gK) (.load (.const (.pointer (some ⟨(H1).length, 0, none⟩))) (some 4)) [] Hc1 = some ((.agg ⟨[(.int .i64 x0), (.int .i64 x1), (.int .i64 x2), (.int .i64 x3)]⟩), Hc1))
 (.req true (.req (!(decide ((fromB ⟨x0, x1, x2, x3⟩ 3) < (fromB ⟨x0, x1, x2, x3⟩ 4)))) (.req true (.claim (opA (Plain.env tblC gK) (.load (.const (.pointer (some ⟨(H1).length, 0, none⟩))) (some 4)) [] Hc1 = some ((.agg ⟨[(.int .i64 x0), (.int .i64 x1), (.int .i64 x2), (.int .i64 x3)]⟩), Hc1))
 (.req true (.claim (opA (Plain.env tblC gK) (.load (.const (.pointer (some ⟨(H1).length, 0, none⟩))) (some 4)) [] Hc1 = some ((.agg ⟨[(.int .i64 x0), (.int .i64 x1), (.int .i64 x2), (.int .i64 x3)]⟩), Hc1))
 (.req true (.req (!(decide ((fromB ⟨x0, x1, x2, x3⟩ 4) < (fromB ⟨x0, x1, x2, x3⟩ 5)))) (.req true (.claim (opA (Plain.env tblC gK) (.load (.const (.pointer (some ⟨(H1).length, 0, none⟩))) (some 4)) [] Hc1 = some ((.agg ⟨[(.int .i64 x0), (.int .i64 x1), (.int .i64 x2), (.int .i64 x3)]⟩), Hc1))
 (.req true (.claim (opA (Plain.env tblC gK) (.load (.const (.pointer (some ⟨(H1).length, 0, none⟩))) (some 4)) [] Hc1 = some ((.agg ⟨[(.int .i64 x0), (.int .i64 x1), (.int .i64 x2), (.int .i64 x3)]⟩), Hc1))
 (.req true (.req ((fromB ⟨x0, x1, x2, x3⟩ (-1)) == (fromB ⟨x0, x1, x2, x3⟩ 0)) (.claim (opA (Plain.env tblC gK) (.load (.const (.pointer (some ⟨(H1).length, 0, none⟩))) (some 4)) [] Hc1 = some ((.agg ⟨[(.int .i64 x0), (.int .i64 x1), (.int .i64 x2), (.int .i64 x3)]⟩), Hc1))
 (.req true (.req ((fromB ⟨x0, x1, x2, x3⟩ 4) == 0) (.req true (.ret (pk .ret (fr 160 [(6, (.bool true))])) Hc1))))))))))))))))))))))))))))))))))))))))))))))))))))))))))))))))))))))))))))))))))))))))))))))))))))))))))))))))))))))))) := by kernel_rfl
def hn10k2 (s0 s1 l lt : Value) (a2 n m bal : Int) (b bl o : Nat) (x0 x1 x2 x3 : Int) (y0 y1 y2 y3 : Int) (z0 z1 z2 z3 : Int) (H H1 Hb Hc3 Hc1 : Heap) : Hj := (.lp 0 [2, 6, 7] (fr 160 [(2, (.int .i64 a2)), (6, (.bool false)), (7, l)]) H1 (.use 49 (.agg ⟨[(.int .i64 x0), (.int .i64 x1), (.int .i64 x2), (.int .i64 x3)]⟩) H1 (.use 9999 (.tuple ⟨[]⟩) (H1 ++ [some (Blk.mk .fix [(.int .i64 x0), (.int .i64 x1), (.int .i64 x2), (.int .i64 x3)])]) (.use 51 (.int .i64 n) (H1 ++ [some (Blk.mk .fix [(.int .i64 x0), (.int .i64 x1), (.int .i64 x2), (.int .i64 x3)])]) (.yes (.use 55 (.int .i64 n) (H1 ++ [some (Blk.mk .fix [(.int .i64 x0), (.int .i64 x1), (.int .i64 x2), (.int .i64 x3)])]) (.use 60 lt Hb (.use 63 (.pointer (some ⟨b, (o + 0), none⟩)) Hb (.use 65 (.int .i64 m) Hb (.use 67 (.pointer (some ⟨b, (o + 0), none⟩)) Hb (.use 9999 (.tuple ⟨[]⟩) Hc3 (.use 70 (.agg ⟨[(.int .i64 y0), (.int .i64 y1), (.int .i64 y2), (.int .i64 y3)]⟩) Hc3 (.use 9999 (.tuple ⟨[]⟩) (Hc3 ++ [some (Blk.mk .fix [(.int .i64 y0), (.int .i64 y1), (.int .i64 y2), (.int .i64 y3)])]) (.con (.use 76 (.int .i64 y0) (Hc3 ++ [some (Blk.mk .fix [(.int .i64 y0), (.int .i64 y1), (.int .i64 y2), (.int .i64 y3)])]) (.use 79 (.int .i64 x0) (Hc3 ++ [some (Blk.mk .fix [(.int .i64 y0), (.int .i64 y1), (.int .i64 y2), (.int .i64 y3)])]) (.no (.con (.use 76 (.int .i64 y1) (Hc3 ++ [some (Blk.mk .fix [(.int .i64 y0), (.int .i64 y1), (.int .i64 y2), (.int .i64 y3)])]) (.use 79 (.int .i64 x1) (Hc3 ++ [some (Blk.mk .fix [(.int .i64 y0), (.int .i64 y1), (.int .i64 y2), (.int .i64 y3)])]) (.no (.con (.use 76 (.int .i64 y2) (Hc3 ++ [some (Blk.mk .fix [(.int .i64 y0), (.int .i64 y1), (.int .i64 y2), (.int .i64 y3)])]) (.use 79 (.int .i64 x2) (Hc3 ++ [some (Blk.mk .fix [(.int .i64 y0), (.int .i64 y1), (.int .i64 y2), (.int .i64 y3)])]) (.yes (.con (.use 76 (.int .i64 y3) (Hc3 ++ [some (Blk.mk .fix [(.int .i64 y0), (.int .i64 y1), (.int .i64 y2), (.int .i64 y3)])]) (.use 79 (.int .i64 x3) (Hc3 ++ [some (Blk.mk .fix [(.int .i64 y0), (.int .i64 y1), (.int .i64 y2), (.int .i64 y3)])]) (.no (.con (.use 87 (.agg ⟨[(.int .i64 y0), (.int .i64 y1), (.int .i64 y2), (.int .i64 y3)]⟩) (Hc3 ++ [some (Blk.mk .fix [(.int .i64 y0), (.int .i64 y1), (.int .i64 y2), (.int .i64 y3)])]) (.use 89 (.agg ⟨[(.int .i64 x0), (.int .i64 x1), (.int .i64 x2), (.int .i64 x3)]⟩) (Hc3 ++ [some (Blk.mk .fix [(.int .i64 y0), (.int .i64 y1), (.int .i64 y2), (.int .i64 y3)])]) (.no (.con (.con (.yes (.con (.con (.con (.use 99 (.pointer (some ⟨b, (o + 0), none⟩)) (Hc3 ++ [some (Blk.mk .fix [(.int .i64 y0), (.int .i64 y1), (.int .i64 y2), (.int .i64 y3)])]) (.con (.con (.con (.use 102 (.int .i64 bal) (Hc3 ++ [some (Blk.mk .fix [(.int .i64 y0), (.int .i64 y1), (.int .i64 y2), (.int .i64 y3)])]) (.con (.con (.con (.con (.no (.con (.use 110 (.agg ⟨[(.int .i64 y0), (.int .i64 y1), (.int .i64 y2), (.int .i64 y3)]⟩) (Hc3 ++ [some (Blk.mk .fix [(.int .i64 y0), (.int .i64 y1), (.int .i64 y2), (.int .i64 y3)])]) (.use 113 (.agg ⟨[(.int .i64 x0), (.int .i64 x1), (.int .i64 x2), (.int .i64 x3)]⟩) (Hc3 ++ [some (Blk.mk .fix [(.int .i64 y0), (.int .i64 y1), (.int .i64 y2), (.int .i64 y3)])]) (.no (.con (.use 110 (.agg ⟨[(.int .i64 y0), (.int .i64 y1), (.int .i64 y2), (.int .i64 y3)]⟩) (Hc3 ++ [some (Blk.mk .fix [(.int .i64 y0), (.int .i64 y1), (.int .i64 y2), (.int .i64 y3)])]) (.use 113 (.agg ⟨[(.int .i64 x0), (.int .i64 x1), (.int .i64 x2), (.int .i64 x3)]⟩) (Hc3 ++ [some (Blk.mk .fix [(.int .i64 y0), (.int .i64 y1), (.int .i64 y2), (.int .i64 y3)])]) (.no (.con (.use 110 (.agg ⟨[(.int .i64 y0), (.int .i64 y1), (.int .i64 y2), (.int .i64 y3)]⟩) (Hc3 ++ [some (Blk.mk .fix [(.int .i64 y0), (.int .i64 y1), (.int .i64 y2), (.int .i64 y3)])]) (.use 113 (.agg ⟨[(.int .i64 x0), (.int .i64 x1), (.int .i64 x2), (.int .i64 x3)]⟩) (Hc3 ++ [some (Blk.mk .fix [(.int .i64 y0), (.int .i64 y1), (.int .i64 y2), (.int .i64 y3)])]) (.no (.con (.use 110 (.agg ⟨[(.int .i64 y0), (.int .i64 y1), (.int .i64 y2), (.int .i64 y3)]⟩) (Hc3 ++ [some (Blk.mk .fix [(.int .i64 y0), (.int .i64 y1), (.int .i64 y2), (.int .i64 y3)])]) (.use 113 (.agg ⟨[(.int .i64 x0), (.int .i64 x1), (.int .i64 x2), (.int .i64 x3)]⟩) (Hc3 ++ [some (Blk.mk .fix [(.int .i64 y0), (.int .i64 y1), (.int .i64 y2), (.int .i64 y3)])]) (.no (.con (.use 110 (.agg ⟨[(.int .i64 y0), (.int .i64 y1), (.int .i64 y2), (.int .i64 y3)]⟩) (Hc3 ++ [some (Blk.mk .fix [(.int .i64 y0), (.int .i64 y1), (.int .i64 y2), (.int .i64 y3)])]) (.use 113 (.agg ⟨[(.int .i64 x0), (.int .i64 x1), (.int .i64 x2), (.int .i64 x3)]⟩) (Hc3 ++ [some (Blk.mk .fix [(.int .i64 y0), (.int .i64 y1), (.int .i64 y2), (.int .i64 y3)])]) (.no (.con (.use 119 (.pointer (some ⟨b, (o + 0), none⟩)) (Hc3 ++ [some (Blk.mk .fix [(.int .i64 y0), (.int .i64 y1), (.int .i64 y2), (.int .i64 y3)])]) (.use 9999 (.tuple ⟨[]⟩) Hc1 (.use 123 (.agg ⟨[(.int .i64 z0), (.int .i64 z1), (.int .i64 z2), (.int .i64 z3)]⟩) Hc1 (.use 125 (.agg ⟨[(.int .i64 x0), (.int .i64 x1), (.int .i64 x2), (.int .i64 x3)]⟩) Hc1 (.use 129 (.pointer (some ⟨bl, (o + 0), none⟩)) Hc1 (.use 132 (.int .i64 bal) Hc1 (.no (.con (.use 139 (.agg ⟨[(.int .i64 x0), (.int .i64 x1), (.int .i64 x2), (.int .i64 x3)]⟩) Hc1 (.use 142 (.agg ⟨[(.int .i64 x0), (.int .i64 x1), (.int .i64 x2), (.int .i64 x3)]⟩) Hc1 (.no (.con (.use 139 (.agg ⟨[(.int .i64 x0), (.int .i64 x1), (.int .i64 x2), (.int .i64 x3)]⟩) Hc1 (.use 142 (.agg ⟨[(.int .i64 x0), (.int .i64 x1), (.int .i64 x2), (.int .i64 x3)]⟩) Hc1 (.no (.con (.use 139 (.agg ⟨[(.int .i64 x0), (.int .i64 x1), (.int .i64 x2), (.int .i64 x3)]⟩) Hc1 (.use 142 (.agg ⟨[(.int .i64 x0), (.int .i64 x1), (.int .i64 x2), (.int .i64 x3)]⟩) Hc1 (.no (.con (.use 139 (.agg ⟨[(.int .i64 x0), (.int .i64 x1), (.int .i64 x2), (.int .i64 x3)]⟩) Hc1 (.use 142 (.agg ⟨[(.int .i64 x0), (.int .i64 x1), (.int .i64 x2), (.int .i64 x3)]⟩) Hc1 (.no (.con (.use 139 (.agg ⟨[(.int .i64 x0), (.int .i64 x1), (.int .i64 x2), (.int .i64 x3)]⟩) Hc1 (.use 142 (.agg ⟨[(.int .i64 x0), (.int .i64 x1), (.int .i64 x2), (.int .i64 x3)]⟩) Hc1 (.no (.con (.use 147 (.agg ⟨[(.int .i64 x0), (.int .i64 x1), (.int .i64 x2), (.int .i64 x3)]⟩) Hc1 (.use 149 (.agg ⟨[(.int .i64 x0), (.int .i64 x1), (.int .i64 x2), (.int .i64 x3)]⟩) Hc1 (.yes (.use 153 (.agg ⟨[(.int .i64 x0), (.int .i64 x1), (.int .i64 x2), (.int .i64 x3)]⟩) Hc1 (.con (.con (.con (.yes (.con .nil)))))))))))))))))))))))))))))))))))))))))))))))))))))))))))))))))))))))))))))))))))))))))))))))))))))))))))
theorem tree10k2 (s0 s1 l lt : Value) (a2 n m bal : Int) (b bl o : Nat) (x0 x1 x2 x3 : Int) (y0 y1 y2 y3 : Int) (z0 z1 z2 z3 : Int) (H H1 Hb Hc3 Hc1 : Heap) : pieceT tblC gK 200 (resLv [.tmp 6]) il10.body (hn10k2 s0 s1 l lt a2 n m bal b bl o x0 x1 x2 x3 y0 y1 y2 y3 z0 z1 z2 z3 H H1 Hb Hc3 Hc1) (fr 160 [(0, s0), (1, s1), (2, (.int .i64 a2))]) H =
(.claim (Wp (Plain.env tblC gK) (inL [2, 6, 7]) (.block 0 (.loop body10_0)) (fr 160 [(0, s0), (1, s1), (2, (.int .i64 a2)), (6, (.bool false)), (7, (.slice none 0 0)), (8, (.int .i64 0))]) H fun e s h' => e = .normal ∧ s = (fr 160 [(2, (.int .i64 a2)), (6, (.bool false)), (7, l)]) ∧ h' = H1)
 (.claim (opA (Plain.env tblC gK) (.call 24 [(.const l)]) [] H1 = some ((.agg ⟨[(.int .i64 x0), (.int .i64 x1), (.int .i64 x2), (.int .i64 x3)]⟩), H1))
 (.claim (opA (Plain.env tblC gK) (.store (.const (.pointer (some ⟨(H1).length, 0, none⟩))) (.const (.agg ⟨[(.int .i64 x0), (.int .i64 x1), (.int .i64 x2), (.int .i64 x3)]⟩)) 4) [] (H1 ++ [some (Blk.mk .fix [(.int .i64 0), (.int .i64 0), (.int .i64 0), (.int .i64 0)])]) = some ((.tuple ⟨[]⟩), (H1 ++ [some (Blk.mk .fix [(.int .i64 x0), (.int .i64 x1), (.int .i64 x2), (.int .i64 x3)])])))
 (.claim (opA (Plain.env tblC gK) (.len (.const l)) [] (H1 ++ [some (Blk.mk .fix [(.int .i64 x0), (.int .i64 x1), (.int .i64 x2), (.int .i64 x3)])]) = some ((.int .i64 n), (H1 ++ [some (Blk.mk .fix [(.int .i64 x0), (.int .i64 x1), (.int .i64 x2), (.int .i64 x3)])])))
 (.req (decide (n > 0)) (.claim (opA (Plain.env tblC gK) (.len (.const l)) [] (H1 ++ [some (Blk.mk .fix [(.int .i64 x0), (.int .i64 x1), (.int .i64 x2), (.int .i64 x3)])]) = some ((.int .i64 n), (H1 ++ [some (Blk.mk .fix [(.int .i64 x0), (.int .i64 x1), (.int .i64 x2), (.int .i64 x3)])])))
 (.req (preWithin 0 (IntKind.wrap .i64 (n - 1))) (.claim (opA (Plain.env tblC gK) (.append 5 40 (.const (.slice (some ⟨((H1 ++ [some (Blk.mk .fix [(.int .i64 x0), (.int .i64 x1), (.int .i64 x2), (.int .i64 x3)])])).length, 0, none⟩) 0 0)) (.const l)) [] ((H1 ++ [some (Blk.mk .fix [(.int .i64 x0), (.int .i64 x1), (.int .i64 x2), (.int .i64 x3)])]) ++ [some (Blk.mk .fix [])]) = some (lt, Hb))
 (.claim (opA (Plain.env tblC gK) (.iadr 5 none (.const lt) (.const (.int .i64 (wn a2 0 (IntKind.wrap .i64 (n - 1)))))) [] Hb = some ((.pointer (some ⟨b, (o + 0), none⟩)), Hb))
 (.claim (opA (Plain.env tblC gK) (.load (.const (.pointer (some ⟨b, (o + 3), none⟩))) none) [] Hb = some ((.int .i64 m), Hb))
 (.claim (opA (Plain.env tblC gK) (.iadr 5 none (.const lt) (.const (.int .i64 (wn a2 0 (IntKind.wrap .i64 (n - 1)))))) [] Hb = some ((.pointer (some ⟨b, (o + 0), none⟩)), Hb))
 (.claim (opA (Plain.env tblC gK) (.store (.const (.pointer (some ⟨b, (o + 3), none⟩))) (.const (.int .i64 (IntKind.wrap .i64 (m + 1)))) 1) [] Hb = some ((.tuple ⟨[]⟩), Hc3))
 (.claim (opA (Plain.env tblC gK) (.call 24 [(.const lt)]) [] Hc3 = some ((.agg ⟨[(.int .i64 y0), (.int .i64 y1), (.int .i64 y2), (.int .i64 y3)]⟩), Hc3))
 (.claim (opA (Plain.env tblC gK) (.store (.const (.pointer (some ⟨(Hc3).length, 0, none⟩))) (.const (.agg ⟨[(.int .i64 y0), (.int .i64 y1), (.int .i64 y2), (.int .i64 y3)]⟩)) 4) [] (Hc3 ++ [some (Blk.mk .fix [(.int .i64 0), (.int .i64 0), (.int .i64 0), (.int .i64 0)])]) = some ((.tuple ⟨[]⟩), (Hc3 ++ [some (Blk.mk .fix [(.int .i64 y0), (.int .i64 y1), (.int .i64 y2), (.int .i64 y3)])])))
 (.req true (.claim (opA (Plain.env tblC gK) (.load (.const (.pointer (some ⟨(Hc3).length, 0, none⟩))) none) [] (Hc3 ++ [some (Blk.mk .fix [(.int .i64 y0), (.int .i64 y1), (.int .i64 y2), (.int .i64 y3)])]) = some ((.int .i64 y0), (Hc3 ++ [some (Blk.mk .fix [(.int .i64 y0), (.int .i64 y1), (.int .i64 y2), (.int .i64 y3)])])))
 (.claim (opA (Plain.env tblC gK) (.load (.const (.pointer (some ⟨(H1).length, 0, none⟩))) none) [] (Hc3 ++ [some (Blk.mk .fix [(.int .i64 y0), (.int .i64 y1), (.int .i64 y2), (.int .i64 y3)])]) = some ((.int .i64 x0), (Hc3 ++ [some (Blk.mk .fix [(.int .i64 y0), (.int .i64 y1), (.int .i64 y2), (.int .i64 y3)])])))
 (.req (!(decide ((IntKind.wrap .i64 (y0 - x0)) > 0))) (.req true (.claim (opA (Plain.env tblC gK) (.load (.const (.pointer (some ⟨(Hc3).length, 1, none⟩))) none) [] (Hc3 ++ [some (Blk.mk .fix [(.int .i64 y0), (.int .i64 y1), (.int .i64 y2), (.int .i64 y3)])]) = some ((.int .i64 y1), (Hc3 ++ [some (Blk.mk .fix [(.int .i64 y0), (.int .i64 y1), (.int .i64 y2), (.int .i64 y3)])])))
 (.claim (opA (Plain.env tblC gK) (.load (.const (.pointer (some ⟨(H1).length, 1, none⟩))) none) [] (Hc3 ++ [some (Blk.mk .fix [(.int .i64 y0), (.int .i64 y1), (.int .i64 y2), (.int .i64 y3)])]) = some ((.int .i64 x1), (Hc3 ++ [some (Blk.mk .fix [(.int .i64 y0), (.int .i64 y1), (.int .i64 y2), (.int .i64 y3)])])))
 (.req (!(decide ((IntKind.wrap .i64 (y1 - x1)) > 0))) (.req true (.claim (opA (Plain.env tblC gK) (.load (.const (.pointer (some ⟨(Hc3).length, 2, none⟩))) none) [] (Hc3 ++ [some (Blk.mk .fix [(.int .i64 y0), (.int .i64 y1), (.int .i64 y2), (.int .i64 y3)])]) = some ((.int .i64 y2), (Hc3 ++ [some (Blk.mk .fix [(.int .i64 y0), (.int .i64 y1), (.int .i64 y2), (.int .i64 y3)])])))
 (.claim (opA (Plain.env tblC gK) (.load (.const (.pointer (some ⟨(H1).length, 2, none⟩))) none) [] (Hc3 ++ [some (Blk.mk .fix [(.int .i64 y0), (.int .i64 y1), (.int .i64 y2), (.int .i64 y3)])]) = some ((.int .i64 x2), (Hc3 ++ [some (Blk.mk .fix [(.int .i64 y0), (.int .i64 y1), (.int .i64 y2), (.int .i64 y3)])])))
 (.req (decide ((IntKind.wrap .i64 (y2 - x2)) > 0)) (.req true (.claim (opA (Plain.env tblC gK) (.load (.const (.pointer (some ⟨(Hc3).length, 3, none⟩))) none) [] (Hc3 ++ [some (Blk.mk .fix [(.int .i64 y0), (.int .i64 y1), (.int .i64 y2), (.int .i64 y3)])]) = some ((.int .i64 y3), (Hc3 ++ [some (Blk.mk .fix [(.int .i64 y0), (.int .i64 y1), (.int .i64 y2), (.int .i64 y3)])])))
 (.claim (opA (Plain.env tblC gK) (.load (.const (.pointer (some ⟨(H1).length, 3, none⟩))) none) [] (Hc3 ++ [some (Blk.mk .fix [(.int .i64 y0), (.int .i64 y1), (.int .i64 y2), (.int .i64 y3)])]) = some ((.int .i64 x3), (Hc3 ++ [some (Blk.mk .fix [(.int .i64 y0), (.int .i64 y1), (.int .i64 y2), (.int .i64 y3)])])))
 (.req (!(decide ((IntKind.wrap .i64 (y3 - x3)) > 0))) (.req true (.claim (opA (Plain.env tblC gK) (.load (.const (.pointer (some ⟨(Hc3).length, 0, none⟩))) (some 4)) [] (Hc3 ++ [some (Blk.mk .fix [(.int .i64 y0), (.int .i64 y1), (.int .i64 y2), (.int .i64 y3)])]) = some ((.agg ⟨[(.int .i64 y0), (.int .i64 y1), (.int .i64 y2), (.int .i64 y3)]⟩), (Hc3 ++ [some (Blk.mk .fix [(.int .i64 y0), (.int .i64 y1), (.int .i64 y2), (.int .i64 y3)])])))
 (.req true (.claim (opA (Plain.env tblC gK) (.load (.const (.pointer (some ⟨(H1).length, 0, none⟩))) (some 4)) [] (Hc3 ++ [some (Blk.mk .fix [(.int .i64 y0), (.int .i64 y1), (.int .i64 y2), (.int .i64 y3)])]) = some ((.agg ⟨[(.int .i64 x0), (.int .i64 x1), (.int .i64 x2), (.int .i64 x3)]⟩), (Hc3 ++ [some (Blk.mk .fix [(.int .i64 y0), (.int .i64 y1), (.int .i64 y2), (.int .i64 y3)])])))
 (.req true (.req (!((fromB ⟨y0, y1, y2, y3⟩ 0) != (fromB ⟨x0, x1, x2, x3⟩ 0))) (.req ((IntKind.wrap .i64 (0 + (IntKind.wrap .i64 (y2 - x2)))) != 0) (.claim (opA (Plain.env tblC gK) (.iadr 5 none (.const lt) (.const (.int .i64 (wn a2 0 (IntKind.wrap .i64 (n - 1)))))) [] (Hc3 ++ [some (Blk.mk .fix [(.int .i64 y0), (.int .i64 y1), (.int .i64 y2), (.int .i64 y3)])]) = some ((.pointer (some ⟨b, (o + 0), none⟩)), (Hc3 ++ [some (Blk.mk .fix [(.int .i64 y0), (.int .i64 y1), (.int .i64 y2), (.int .i64 y3)])])))
 (.claim (opA (Plain.env tblC gK) (.load (.const (.pointer (some ⟨b, (o + 1), none⟩))) none) [] (Hc3 ++ [some (Blk.mk .fix [(.int .i64 y0), (.int .i64 y1), (.int .i64 y2), (.int .i64 y3)])]) = some ((.int .i64 bal), (Hc3 ++ [some (Blk.mk .fix [(.int .i64 y0), (.int .i64 y1), (.int .i64 y2), (.int .i64 y3)])])))
 (.req (!((IntKind.wrap .i64 (0 + (IntKind.wrap .i64 (y2 - x2)))) != bal)) (.req true (.claim (opA (Plain.env tblC gK) (.load (.const (.pointer (some ⟨(Hc3).length, 0, none⟩))) (some 4)) [] (Hc3 ++ [some (Blk.mk .fix [(.int .i64 y0), (.int .i64 y1), (.int .i64 y2), (.int .i64 y3)])]) = some ((.agg ⟨[(.int .i64 y0), (.int .i64 y1), (.int .i64 y2), (.int .i64 y3)]⟩), (Hc3 ++ [some (Blk.mk .fix [(.int .i64 y0), (.int .i64 y1), (.int .i64 y2), (.int .i64 y3)])])))
 (.req true (.claim (opA (Plain.env tblC gK) (.load (.const (.pointer (some ⟨(H1).length, 0, none⟩))) (some 4)) [] (Hc3 ++ [some (Blk.mk .fix [(.int .i64 y0), (.int .i64 y1), (.int .i64 y2), (.int .i64 y3)])]) = some ((.agg ⟨[(.int .i64 x0), (.int .i64 x1), (.int .i64 x2), (.int .i64 x3)]⟩), (Hc3 ++ [some (Blk.mk .fix [(.int .i64 y0), (.int .i64 y1), (.int .i64 y2), (.int .i64 y3)])])))
 (.req true (.req (!(decide ((fromB ⟨y0, y1, y2, y3⟩ 0) < (fromB ⟨x0, x1, x2, x3⟩ 0)))) (.req true (.claim (opA (Plain.env tblC gK) (.load (.const (.pointer (some ⟨(Hc3).length, 0, none⟩))) (some 4)) [] (Hc3 ++ [some (Blk.mk .fix [(.int .i64 y0), (.int .i64 y1), (.int .i64 y2), (.int .i64 y3)])]) = some ((.agg ⟨[(.int .i64 y0), (.int .i64 y1), (.int .i64 y2), (.int .i64 y3)]⟩), (Hc3 ++ [some (Blk.mk .fix [(.int .i64 y0), (.int .i64 y1), (.int .i64 y2), (.int .i64 y3)])])))
 (.req true (.claim (opA (Plain.env tblC gK) (.load (.const (.pointer (some ⟨(H1).length, 0, none⟩))) (some 4)) [] (Hc3 ++ [some (Blk.mk .fix [(.int .i64 y0), (.int .i64 y1), (.int .i64 y2), (.int .i64 y3)])]) = some ((.agg ⟨[(.int .i64 x0), (.int .i64 x1), (.int .i64 x2), (.int .i64 x3)]⟩), (Hc3 ++ [some (Blk.mk .fix [(.int .i64 y0), (.int .i64 y1), (.int .i64 y2), (.int .i64 y3)])])))
 (.req true (.req (!(decide ((fromB ⟨y0, y1, y2, y3⟩ 1) < (fromB ⟨x0, x1, x2, x3⟩ 1)))) (.req true (.claim (opA (Plain.env tblC gK) (.load (.const (.pointer (some ⟨(Hc3).length, 0, none⟩))) (some 4)) [] (Hc3 ++ [some (Blk.mk .fix [(.int .i64 y0), (.int .i64 y1), (.int .i64 y2), (.int .i64 y3)])]) = some ((.agg ⟨[(.int .i64 y0), (.int .i64 y1), (.int .i64 y2), (.int .i64 y3)]⟩), (Hc3 ++ [some (Blk.mk .fix [(.int .i64 y0), (.int .i64 y1), (.int .i64 y2), (.int .i64 y3)])])))
 (.req true (.claim (opA (Plain.env tblC gK) (.load (.const (.pointer (some ⟨(H1).length, 0, none⟩))) (some 4)) [] (Hc3 ++ [some (Blk.mk .fix [(.int .i64 y0), (.int .i64 y1), (.int .i64 y2), (.int .i64 y3)])]) = some ((.agg ⟨[(.int .i64 x0), (.int .i64 x1), (.int .i64 x2), (.int .i64 x3)]⟩), (Hc3 ++ [some (Blk.mk .fix [(.int .i64 y0), (.int .i64 y1), (.int .i64 y2), (.int .i64 y3)])])))
 (.req true (.req (!(decide ((fromB ⟨y0, y1, y2, y3⟩ 2) < (fromB ⟨x0, x1, x2, x3⟩ 2)))) (.req true (.claim (opA (Plain.env tblC gK) (.load (.const (.pointer (some ⟨(Hc3).length, 0, none⟩))) (some 4)) [] (Hc3 ++ [some (Blk.mk .fix [(.int .i64 y0), (.int .i64 y1), (.int .i64 y2), (.int .i64 y3)])]) = some ((.agg ⟨[(.int .i64 y0), (.int .i64 y1), (.int .i64 y2), (.int .i64 y3)]⟩), (Hc3 ++ [some (Blk.mk .fix [(.int .i64 y0), (.int .i64 y1), (.int .i64 y2), (.int .i64 y3)])])))
 (.req true (.claim (opA (Plain.env tblC gK) (.load (.const (.pointer (some ⟨(H1).length, 0, none⟩))) (some 4)) [] (Hc3 ++ [some (Blk.mk .fix [(.int .i64 y0), (.int .i64 y1), (.int .i64 y2), (.int .i64 y3)])]) = some ((.agg ⟨[(.int .i64 x0), (.int .i64 x1), (.int .i64 x2), (.int .i64 x3)]⟩), (Hc3 ++ [some (Blk.mk .fix [(.int .i64 y0), (.int .i64 y1), (.int .i64 y2), (.int .i64 y3)])])))
 (.req true (.req (!(decide ((fromB ⟨y0, y1, y2, y3⟩ 3) < (fromB ⟨x0, x1, x2, x3⟩ 3)))) (.req true (.claim (opA (Plain.env tblC gK) (.load (.const (.pointer (some ⟨(Hc3).length, 0, none⟩))) (some 4)) [] (Hc3 ++ [some (Blk.mk .fix [(.int .i64 y0), (.int .i64 y1), (.int .i64 y2), (.int .i64 y3)])]) = some ((.agg ⟨[(.int .i64 y0), (.int .i64 y1), (.int .i64 y2), (.int .i64 y3)]⟩), (Hc3 ++ [some (Blk.mk .fix [(.int .i64 y0), (.int .i64 y1), (.int .i64 y2), (.int .i64 y3)])])))
 (.req true (.claim (opA (Plain.env tblC gK) (.load (.const (.pointer (some ⟨(H1).length, 0, none⟩))) (some 4)) [] (Hc3 ++ [some (Blk.mk .fix [(.int .i64 y0), (.int .i64 y1), (.int .i64 y2), (.int .i64 y3)])]) = some ((.agg ⟨[(.int .i64 x0), (.int .i64 x1), (.int .i64 x2), (.int .i64 x3)]⟩), (Hc3 ++ [some (Blk.mk .fix [(.int .i64 y0), (.int .i64 y1), (.int .i64 y2), (.int .i64 y3)])])))
 (.req true (.req (!(decide ((fromB ⟨y0, y1, y2, y3⟩ 4) < (fromB ⟨x0, x1, x2, x3⟩ 4)))) (.claim (opA (Plain.env tblC gK) (.iadr 5 none (.const lt) (.const (.int .i64 (wn a2 0 (IntKind.wrap .i64 (n - 1)))))) [] (Hc3 ++ [some (Blk.mk .fix [(.int .i64 y0), (.int .i64 y1), (.int .i64 y2), (.int .i64 y3)])]) = some ((.pointer (some ⟨b, (o + 0), none⟩)), (Hc3 ++ [some (Blk.mk .fix [(.int .i64 y0), (.int .i64 y1), (.int .i64 y2), (.int .i64 y3)])])))
 (.claim (opA (Plain.env tblC gK) (.store (.const (.pointer (some ⟨b, (o + 1), none⟩))) (.const (.int .i64 0)) 1) [] (Hc3 ++ [some (Blk.mk .fix [(.int .i64 y0), (.int .i64 y1), (.int .i64 y2), (.int .i64 y3)])]) = some ((.tuple ⟨[]⟩), Hc1))
 (.req true (.claim (opA (Plain.env tblC gK) (.call 24 [(.const lt)]) [] Hc1 = some ((.agg ⟨[(.int .i64 z0), (.int .i64 z1), (.int .i64 z2), (.int .i64 z3)]⟩), Hc1))
 (.req true (.claim (opA (Plain.env tblC gK) (.load (.const (.pointer (some ⟨(H1).length, 0, none⟩))) (some 4)) [] Hc1 = some ((.agg ⟨[(.int .i64 x0), (.int .i64 x1), (.int .i64 x2), (.int .i64 x3)]⟩), Hc1))
 (.req true (.claim (opA (Plain.env tblC gK) (.iadr 5 none (.const l) (.const (.int .i64 (wn a2 0 (IntKind.wrap .i64 (n - 1)))))) [] Hc1 = some ((.pointer (some ⟨bl, (o + 0), none⟩)), Hc1))
 (.claim (opA (Plain.env tblC gK) (.load (.const (.pointer (some ⟨bl, (o + 1), none⟩))) none) [] Hc1 = some ((.int .i64 bal), Hc1))
 (.req (!((fromB ⟨z0, z1, z2, z3⟩ 0) != (IntKind.wrap .i64 ((fromB ⟨x0, x1, x2, x3⟩ 0) - bal)))) (.req true (.claim (opA (Plain.env tblC gK) (.load (.const (.pointer (some ⟨(H1).length, 0, none⟩))) (some 4)) [] Hc1 = some ((.agg ⟨[(.int .i64 x0), (.int .i64 x1), (.int .i64 x2), (.int .i64 x3)]⟩), Hc1))
 (.req true (.claim (opA (Plain.env tblC gK) (.load (.const (.pointer (some ⟨(H1).length, 0, none⟩))) (some 4)) [] Hc1 = some ((.agg ⟨[(.int .i64 x0), (.int .i64 x1), (.int .i64 x2), (.int .i64 x3)]⟩), Hc1))
 (.req true (.req (!(decide ((fromB ⟨x0, x1, x2, x3⟩ 0) < (fromB ⟨x0, x1, x2, x3⟩ 1)))) (.req true (.claim (opA (Plain.env tblC gK) (.load (.const (.pointer (some ⟨(H1).length, 0, none⟩))) (some 4)) [] Hc1 = some ((.agg ⟨[(.int .i64 x0), (.int .i64 x1), (.int .i64 x2), (.int .i64 x3)]⟩), Hc1))
 (.req true (.claim (opA (Plain.env tblC gK) (.load (.const (.pointer (some ⟨(H1).length, 0, none⟩))) (some 4)) [] Hc1 = some ((.agg ⟨[(.int .i64 x0), (.int .i64 x1), (.int .i64 x2), (.int .i64 x3)]⟩), Hc1))
 (.req true (.req (!(decide ((fromB ⟨x0, x1, x2, x3⟩ 1) < (fromB ⟨x0, x1, x2, x3⟩ 2)))) (.req true (.claim (opA (Plain.env tblC gK) (.load (.const (.pointer (some ⟨(H1).length, 0, none⟩))) (some 4)) [] Hc1 = some ((.agg ⟨[(.int .i64 x0), (.int .i64 x1), (.int .i64 x2), (.int .i64 x3)]⟩), Hc1))
 (.req true (.claim (opA (Plain.env tblC gK) (.load (.const (.pointer (some ⟨(H1).length, 0, none⟩))) (some 4)) [] Hc1 = some ((.agg ⟨[(.int .i64 x0), (.int .i64 x1), (.int .i64 x2), (.int .i64 x3)]⟩), Hc1))
 (.req true (.req (!(decide ((fromB ⟨x0, x1, x2, x3⟩ 2) < (fromB ⟨x0, x1, x2, x3⟩ 3)))) (.req true (.claim (opA (Plain.env tblC gK) (.load (.const (.pointer (some ⟨(H1).length, 0, none⟩))) (some 4)) [] Hc1 = some ((.agg ⟨[(.int .i64 x0), (.int .i64 x1), (.int .i64 x2), (.int .i64 x3)]⟩), Hc1))
 (.req true (.claim (opA (Plain.env tblC gK) (.load (.const (.pointer (some ⟨(H1).length, 0, none⟩))) (some 4)) [] Hc1 = some ((.agg ⟨[(.int .i64 x0), (.int .i64 x1), (.int .i64 x2), (.int .i64 x3)]⟩), Hc1))
 (.req true (.req (!(decide ((fromB ⟨x0, x1, x2, x3⟩ 3) < (fromB ⟨x0, x1, x2, x3⟩ 4)))) (.req true (.claim (opA (Plain.env tblC gK) (.load (.const (.pointer (some ⟨(H1).length, 0, none⟩))) (some 4)) [] Hc1 = some ((.agg ⟨[(.int .i64 x0), (.int .i64 x1), (.int .i64 x2), (.int .i64 x3)]⟩), Hc1))
 (.req true (.claim (opA (Plain.env tblC gK) (.load (.const (.pointer (some ⟨(H1).length, 0, none⟩))) (some 4)) [] Hc1 = some ((.agg ⟨[(.int .i64 x0), (.int .i64 x1), (.int .i64 x2), (.int .i64 x3)]⟩), Hc1))
 (.req true (.req (!(decide ((fromB ⟨x0, x1, x2, x3⟩ 4) < (fromB ⟨x0, x1, x2, x3⟩ 5)))) (.req true (.claim (opA (Plain.env tblC gK) (.load (.const (.pointer (some ⟨(H1).length, 0, none⟩))) (some 4)) [] Hc1 = some ((.agg ⟨[(.int .i64 x0), (.int .i64 x1), (.int .i64 x2), (.int .i64 x3)]⟩), Hc1))
 (.req true (.claim (opA (Plain.env tblC gK) (.load (.const (.pointer (some ⟨(H1).length, 0, none⟩))) (some 4)) [] Hc1 = some ((.agg ⟨[(.int .i64 x0), (.int .i64 x1), (.int .i64 x2), (.int .i64 x3)]⟩), Hc1))
 (.req true (.req ((fromB ⟨x0, x1, x2, x3⟩ (-1)) == (fromB ⟨x0, x1, x2, x3⟩ 0)) (.claim (opA (Plain.env tblC gK) (.load (.const (.pointer (some ⟨(H1).length, 0, none⟩))) (some 4)) [] Hc1 = some ((.agg ⟨[(.int .i64 x0), (.int .i64 x1), (.int .i64 x2), (.int .i64 x3)]⟩), Hc1))
 (.req true (.req ((fromB ⟨x0, x1, x2, x3⟩ 4) == 0) (.req true (.ret (pk .ret (fr 160 [(6, (.bool true))])) Hc1))))))))))))))))))))))))))))))))))))))))))))))))))))))))))))))))))))))))))))))))))))))))))))))))))))))))))))))))))))))))) := by kernel_rfl
def hn10k3 (s0 s1 l lt : Value) (a2 n m bal : Int) (b bl o : Nat) (x0 x1 x2 x3 : Int) (y0 y1 y2 y3 : Int) (z0 z1 z2 z3 : Int) (H H1 Hb Hc3 Hc1 : Heap) : Hj := (.lp 0 [2, 6, 7] (fr 160 [(2, (.int .i64 a2)), (6, (.bool false)), (7, l)]) H1 (.use 49 (.agg ⟨[(.int .i64 x0), (.int .i64 x1), (.int .i64 x2), (.int .i64 x3)]⟩) H1 (.use 9999 (.tuple ⟨[]⟩) (H1 ++ [some (Blk.mk .fix [(.int .i64 x0), (.int .i64 x1), (.int .i64 x2), (.int .i64 x3)])]) (.use 51 (.int .i64 n) (H1 ++ [some (Blk.mk .fix [(.int .i64 x0), (.int .i64 x1), (.int .i64 x2), (.int .i64 x3)])]) (.yes (.use 55 (.int .i64 n) (H1 ++ [some (Blk.mk .fix [(.int .i64 x0), (.int .i64 x1), (.int .i64 x2), (.int .i64 x3)])]) (.use 60 lt Hb (.use 63 (.pointer (some ⟨b, (o + 0), none⟩)) Hb (.use 65 (.int .i64 m) Hb (.use 67 (.pointer (some ⟨b, (o + 0), none⟩)) Hb (.use 9999 (.tuple ⟨[]⟩) Hc3 (.use 70 (.agg ⟨[(.int .i64 y0), (.int .i64 y1), (.int .i64 y2), (.int .i64 y3)]⟩) Hc3 (.use 9999 (.tuple ⟨[]⟩) (Hc3 ++ [some (Blk.mk .fix [(.int .i64 y0), (.int .i64 y1), (.int .i64 y2), (.int .i64 y3)])]) (.con (.use 76 (.int .i64 y0) (Hc3 ++ [some (Blk.mk .fix [(.int .i64 y0), (.int .i64 y1), (.int .i64 y2), (.int .i64 y3)])]) (.use 79 (.int .i64 x0) (Hc3 ++ [some (Blk.mk .fix [(.int .i64 y0), (.int .i64 y1), (.int .i64 y2), (.int .i64 y3)])]) (.no (.con (.use 76 (.int .i64 y1) (Hc3 ++ [some (Blk.mk .fix [(.int .i64 y0), (.int .i64 y1), (.int .i64 y2), (.int .i64 y3)])]) (.use 79 (.int .i64 x1) (Hc3 ++ [some (Blk.mk .fix [(.int .i64 y0), (.int .i64 y1), (.int .i64 y2), (.int .i64 y3)])]) (.no (.con (.use 76 (.int .i64 y2) (Hc3 ++ [some (Blk.mk .fix [(.int .i64 y0), (.int .i64 y1), (.int .i64 y2), (.int .i64 y3)])]) (.use 79 (.int .i64 x2) (Hc3 ++ [some (Blk.mk .fix [(.int .i64 y0), (.int .i64 y1), (.int .i64 y2), (.int .i64 y3)])]) (.no (.con (.use 76 (.int .i64 y3) (Hc3 ++ [some (Blk.mk .fix [(.int .i64 y0), (.int .i64 y1), (.int .i64 y2), (.int .i64 y3)])]) (.use 79 (.int .i64 x3) (Hc3 ++ [some (Blk.mk .fix [(.int .i64 y0), (.int .i64 y1), (.int .i64 y2), (.int .i64 y3)])]) (.yes (.con (.use 87 (.agg ⟨[(.int .i64 y0), (.int .i64 y1), (.int .i64 y2), (.int .i64 y3)]⟩) (Hc3 ++ [some (Blk.mk .fix [(.int .i64 y0), (.int .i64 y1), (.int .i64 y2), (.int .i64 y3)])]) (.use 89 (.agg ⟨[(.int .i64 x0), (.int .i64 x1), (.int .i64 x2), (.int .i64 x3)]⟩) (Hc3 ++ [some (Blk.mk .fix [(.int .i64 y0), (.int .i64 y1), (.int .i64 y2), (.int .i64 y3)])]) (.no (.con (.con (.yes (.con (.con (.con (.use 99 (.pointer (some ⟨b, (o + 0), none⟩)) (Hc3 ++ [some (Blk.mk .fix [(.int .i64 y0), (.int .i64 y1), (.int .i64 y2), (.int .i64 y3)])]) (.con (.con (.con (.use 102 (.int .i64 bal) (Hc3 ++ [some (Blk.mk .fix [(.int .i64 y0), (.int .i64 y1), (.int .i64 y2), (.int .i64 y3)])]) (.con (.con (.con (.con (.no (.con (.use 110 (.agg ⟨[(.int .i64 y0), (.int .i64 y1), (.int .i64 y2), (.int .i64 y3)]⟩) (Hc3 ++ [some (Blk.mk .fix [(.int .i64 y0), (.int .i64 y1), (.int .i64 y2), (.int .i64 y3)])]) (.use 113 (.agg ⟨[(.int .i64 x0), (.int .i64 x1), (.int .i64 x2), (.int .i64 x3)]⟩) (Hc3 ++ [some (Blk.mk .fix [(.int .i64 y0), (.int .i64 y1), (.int .i64 y2), (.int .i64 y3)])]) (.no (.con (.use 110 (.agg ⟨[(.int .i64 y0), (.int .i64 y1), (.int .i64 y2), (.int .i64 y3)]⟩) (Hc3 ++ [some (Blk.mk .fix [(.int .i64 y0), (.int .i64 y1), (.int .i64 y2), (.int .i64 y3)])]) (.use 113 (.agg ⟨[(.int .i64 x0), (.int .i64 x1), (.int .i64 x2), (.int .i64 x3)]⟩) (Hc3 ++ [some (Blk.mk .fix [(.int .i64 y0), (.int .i64 y1), (.int .i64 y2), (.int .i64 y3)])]) (.no (.con (.use 110 (.agg ⟨[(.int .i64 y0), (.int .i64 y1), (.int .i64 y2), (.int .i64 y3)]⟩) (Hc3 ++ [some (Blk.mk .fix [(.int .i64 y0), (.int .i64 y1), (.int .i64 y2), (.int .i64 y3)])]) (.use 113 (.agg ⟨[(.int .i64 x0), (.int .i64 x1), (.int .i64 x2), (.int .i64 x3)]⟩) (Hc3 ++ [some (Blk.mk .fix [(.int .i64 y0), (.int .i64 y1), (.int .i64 y2), (.int .i64 y3)])]) (.no (.con (.use 110 (.agg ⟨[(.int .i64 y0), (.int .i64 y1), (.int .i64 y2), (.int .i64 y3)]⟩) (Hc3 ++ [some (Blk.mk .fix [(.int .i64 y0), (.int .i64 y1), (.int .i64 y2), (.int .i64 y3)])]) (.use 113 (.agg ⟨[(.int .i64 x0), (.int .i64 x1), (.int .i64 x2), (.int .i64 x3)]⟩) (Hc3 ++ [some (Blk.mk .fix [(.int .i64 y0), (.int .i64 y1), (.int .i64 y2), (.int .i64 y3)])]) (.no (.con (.use 110 (.agg ⟨[(.int .i64 y0), (.int .i64 y1), (.int .i64 y2), (.int .i64 y3)]⟩) (Hc3 ++ [some (Blk.mk .fix [(.int .i64 y0), (.int .i64 y1), (.int .i64 y2), (.int .i64 y3)])]) (.use 113 (.agg ⟨[(.int .i64 x0), (.int .i64 x1), (.int .i64 x2), (.int .i64 x3)]⟩) (Hc3 ++ [some (Blk.mk .fix [(.int .i64 y0), (.int .i64 y1), (.int .i64 y2), (.int .i64 y3)])]) (.no (.con (.use 119 (.pointer (some ⟨b, (o + 0), none⟩)) (Hc3 ++ [some (Blk.mk .fix [(.int .i64 y0), (.int .i64 y1), (.int .i64 y2), (.int .i64 y3)])]) (.use 9999 (.tuple ⟨[]⟩) Hc1 (.use 123 (.agg ⟨[(.int .i64 z0), (.int .i64 z1), (.int .i64 z2), (.int .i64 z3)]⟩) Hc1 (.use 125 (.agg ⟨[(.int .i64 x0), (.int .i64 x1), (.int .i64 x2), (.int .i64 x3)]⟩) Hc1 (.use 129 (.pointer (some ⟨bl, (o + 0), none⟩)) Hc1 (.use 132 (.int .i64 bal) Hc1 (.no (.con (.use 139 (.agg ⟨[(.int .i64 x0), (.int .i64 x1), (.int .i64 x2), (.int .i64 x3)]⟩) Hc1 (.use 142 (.agg ⟨[(.int .i64 x0), (.int .i64 x1), (.int .i64 x2), (.int .i64 x3)]⟩) Hc1 (.no (.con (.use 139 (.agg ⟨[(.int .i64 x0), (.int .i64 x1), (.int .i64 x2), (.int .i64 x3)]⟩) Hc1 (.use 142 (.agg ⟨[(.int .i64 x0), (.int .i64 x1), (.int .i64 x2), (.int .i64 x3)]⟩) Hc1 (.no (.con (.use 139 (.agg ⟨[(.int .i64 x0), (.int .i64 x1), (.int .i64 x2), (.int .i64 x3)]⟩) Hc1 (.use 142 (.agg ⟨[(.int .i64 x0), (.int .i64 x1), (.int .i64 x2), (.int .i64 x3)]⟩) Hc1 (.no (.con (.use 139 (.agg ⟨[(.int .i64 x0), (.int .i64 x1), (.int .i64 x2), (.int .i64 x3)]⟩) Hc1 (.use 142 (.agg ⟨[(.int .i64 x0), (.int .i64 x1), (.int .i64 x2), (.int .i64 x3)]⟩) Hc1 (.no (.con (.use 139 (.agg ⟨[(.int .i64 x0), (.int .i64 x1), (.int .i64 x2), (.int .i64 x3)]⟩) Hc1 (.use 142 (.agg ⟨[(.int .i64 x0), (.int .i64 x1), (.int .i64 x2), (.int .i64 x3)]⟩) Hc1 (.no (.con (.use 147 (.agg ⟨[(.int .i64 x0), (.int .i64 x1), (.int .i64 x2), (.int .i64 x3)]⟩) Hc1 (.use 149 (.agg ⟨[(.int .i64 x0), (.int .i64 x1), (.int .i64 x2), (.int .i64 x3)]⟩) Hc1 (.yes (.use 153 (.agg ⟨[(.int .i64 x0), (.int .i64 x1), (.int .i64 x2), (.int .i64 x3)]⟩) Hc1 (.con (.con (.con (.yes (.con .nil)))))))))))))))))))))))))))))))))))))))))))))))))))))))))))))))))))))))))))))))))))))))))))))))))))))))))))
theorem tree10k3 (s0 s1 l lt : Value) (a2 n m bal : Int) (b bl o : Nat) (x0 x1 x2 x3 : Int) (y0 y1 y2 y3 : Int) (z0 z1 z2 z3 : Int) (H H1 Hb Hc3 Hc1 : Heap) : pieceT tblC gK 200 (resLv [.tmp 6]) il10.body (hn10k3 s0 s1 l lt a2 n m bal b bl o x0 x1 x2 x3 y0 y1 y2 y3 z0 z1 z2 z3 H H1 Hb Hc3 Hc1) (fr 160 [(0, s0), (1, s1), (2, (.int .i64 a2))]) H =
(.claim (Wp (Plain.env tblC gK) (inL [2, 6, 7]) (.block 0 (.loop body10_0)) (fr 160 [(0, s0), (1, s1), (2, (.int .i64 a2)), (6, (.bool false)), (7, (.slice none 0 0)), (8, (.int .i64 0))]) H fun e s h' => e = .normal ∧ s = (fr 160 [(2, (.int .i64 a2)), (6, (.bool false)), (7, l)]) ∧ h' = H1)
 (.claim (opA (Plain.env tblC gK) (.call 24 [(.const l)]) [] H1 = some ((.agg ⟨[(.int .i64 x0), (.int .i64 x1), (.int .i64 x2), (.int .i64 x3)]⟩), H1))
 (.claim (opA (Plain.env tblC gK) (.store (.const (.pointer (some ⟨(H1).length, 0, none⟩))) (.const (.agg ⟨[(.int .i64 x0), (.int .i64 x1), (.int .i64 x2), (.int .i64 x3)]⟩)) 4) [] (H1 ++ [some (Blk.mk .fix [(.int .i64 0), (.int .i64 0), (.int .i64 0), (.int .i64 0)])]) = some ((.tuple ⟨[]⟩), (H1 ++ [some (Blk.mk .fix [(.int .i64 x0), (.int .i64 x1), (.int .i64 x2), (.int .i64 x3)])])))
 (.claim (opA (Plain.env tblC gK) (.len (.const l)) [] (H1 ++ [some (Blk.mk .fix [(.int .i64 x0), (.int .i64 x1), (.int .i64 x2), (.int .i64 x3)])]) = some ((.int .i64 n), (H1 ++ [some (Blk.mk .fix [(.int .i64 x0), (.int .i64 x1), (.int .i64 x2), (.int .i64 x3)])])))
 (.req (decide (n > 0)) (.claim (opA (Plain.env tblC gK) (.len (.const l)) [] (H1 ++ [some (Blk.mk .fix [(.int .i64 x0), (.int .i64 x1), (.int .i64 x2), (.int .i64 x3)])]) = some ((.int .i64 n), (H1 ++ [some (Blk.mk .fix [(.int .i64 x0), (.int .i64 x1), (.int .i64 x2), (.int .i64 x3)])])))
 (.req (preWithin 0 (IntKind.wrap .i64 (n - 1))) (.claim (opA (Plain.env tblC gK) (.append 5 40 (.const (.slice (some ⟨((H1 ++ [some (Blk.mk .fix [(.int .i64 x0), (.int .i64 x1), (.int .i64 x2), (.int .i64 x3)])])).length, 0, none⟩) 0 0)) (.const l)) [] ((H1 ++ [some (Blk.mk .fix [(.int .i64 x0), (.int .i64 x1), (.int .i64 x2), (.int .i64 x3)])]) ++ [some (Blk.mk .fix [])]) = some (lt, Hb))
 (.claim (opA (Plain.env tblC gK) (.iadr 5 none (.const lt) (.const (.int .i64 (wn a2 0 (IntKind.wrap .i64 (n - 1)))))) [] Hb = some ((.pointer (some ⟨b, (o + 0), none⟩)), Hb))
 (.claim (opA (Plain.env tblC gK) (.load (.const (.pointer (some ⟨b, (o + 3), none⟩))) none) [] Hb = some ((.int .i64 m), Hb))
 (.claim (opA (Plain.env tblC gK) (.iadr 5 none (.const lt) (.const (.int .i64 (wn a2 0 (IntKind.wrap .i64 (n - 1)))))) [] Hb = some ((.pointer (some ⟨b, (o + 0), none⟩)), Hb))
 (.claim (opA (Plain.env tblC gK) (.store (.const (.pointer (some ⟨b, (o + 3), none⟩))) (.const (.int .i64 (IntKind.wrap .i64 (m + 1)))) 1) [] Hb = some ((.tuple ⟨[]⟩), Hc3))
 (.claim (opA (Plain.env tblC gK) (.call 24 [(.const lt)]) [] Hc3 = some ((.agg ⟨[(.int .i64 y0), (.int .i64 y1), (.int .i64 y2), (.int .i64 y3)]⟩), Hc3))
 (.claim (opA (Plain.env tblC gK) (.store (.const (.pointer (some ⟨(Hc3).length, 0, none⟩))) (.const (.agg ⟨[(.int .i64 y0), (.int .i64 y1), (.int .i64 y2), (.int .i64 y3)]⟩)) 4) [] (Hc3 ++ [some (Blk.mk .fix [(.int .i64 0), (.int .i64 0), (.int .i64 0), (.int .i64 0)])]) = some ((.tuple ⟨[]⟩), (Hc3 ++ [some (Blk.mk .fix [(.int .i64 y0), (.int .i64 y1), (.int .i64 y2), (.int .i64 y3)])])))
 (.req true (.claim (opA (Plain.env tblC gK) (.load (.const (.pointer (some ⟨(Hc3).length, 0, none⟩))) none) [] (Hc3 ++ [some (Blk.mk .fix [(.int .i64 y0), (.int .i64 y1), (.int .i64 y2), (.int .i64 y3)])]) = some ((.int .i64 y0), (Hc3 ++ [some (Blk.mk .fix [(.int .i64 y0), (.int .i64 y1), (.int .i64 y2), (.int .i64 y3)])])))
 (.claim (opA (Plain.env tblC gK) (.load (.const (.pointer (some ⟨(H1).length, 0, none⟩))) none) [] (Hc3 ++ [some (Blk.mk .fix [(.int .i64 y0), (.int .i64 y1), (.int .i64 y2), (.int .i64 y3)])]) = some ((.int .i64 x0), (Hc3 ++ [some (Blk.mk .fix [(.int .i64 y0), (.int .i64 y1), (.int .i64 y2), (.int .i64 y3)])])))
 (.req (!(decide ((IntKind.wrap .i64 (y0 - x0)) > 0))) (.req true (.claim (opA (Plain.env tblC gK) (.load (.const (.pointer (some ⟨(Hc3).length, 1, none⟩))) none) [] (Hc3 ++ [some (Blk.mk .fix [(.int .i64 y0), (.int .i64 y1), (.int .i64 y2), (.int .i64 y3)])]) = some ((.int .i64 y1), (Hc3 ++ [some (Blk.mk .fix [(.int .i64 y0), (.int .i64 y1), (.int .i64 y2), (.int .i64 y3)])])))
 (.claim (opA (Plain.env tblC gK) (.load (.const (.pointer (some ⟨(H1).length, 1, none⟩))) none) [] (Hc3 ++ [some (Blk.mk .fix [(.int .i64 y0), (.int .i64 y1), (.int .i64 y2), (.int .i64 y3)])]) = some ((.int .i64 x1), (Hc3 ++ [some (Blk.mk .fix [(.int .i64 y0), (.int .i64 y1), (.int .i64 y2), (.int .i64 y3)])])))
 (.req (!(decide ((IntKind.wrap .i64 (y1 - x1)) > 0))) (.req true (.claim (opA (Plain.env tblC gK) (.load (.const (.pointer (some ⟨(Hc3).length, 2, none⟩))) none) [] (Hc3 ++ [some (Blk.mk .fix [(.int .i64 y0), (.int .i64 y1), (.int .i64 y2), (.int .i64 y3)])]) = some ((.int .i64 y2), (Hc3 ++ [some (Blk.mk .fix [(.int .i64 y0), (.int .i64 y1), (.int .i64 y2), (.int .i64 y3)])])))
 (.claim (opA (Plain.env tblC gK) (.load (.const (.pointer (some ⟨(H1).length, 2, none⟩))) none) [] (Hc3 ++ [some (Blk.mk .fix [(.int .i64 y0), (.int .i64 y1), (.int .i64 y2), (.int .i64 y3)])]) = some ((.int .i64 x2), (Hc3 ++ [some (Blk.mk .fix [(.int .i64 y0), (.int .i64 y1), (.int .i64 y2), (.int .i64 y3)])])))
 (.req (!(decide ((IntKind.wrap .i64 (y2 - x2)) > 0))) (.req true (.claim (opA (Plain.env tblC gK) (.load (.const (.pointer (some ⟨(Hc3).length, 3, none⟩))) none) [] (Hc3 ++ [some (Blk.mk .fix [(.int .i64 y0), (.int .i64 y1), (.int .i64 y2), (.int .i64 y3)])]) = some ((.int .i64 y3), (Hc3 ++ [some (Blk.mk .fix [(.int .i64 y0), (.int .i64 y1), (.int .i64 y2), (.int .i64 y3)])])))
 (.claim (opA (Plain.env tblC gK) (.load (.const (.pointer (some ⟨(H1).length, 3, none⟩))) none) [] (Hc3 ++ [some (Blk.mk .fix [(.int .i64 y0), (.int .i64 y1), (.int .i64 y2), (.int .i64 y3)])]) = some ((.int .i64 x3), (Hc3 ++ [some (Blk.mk .fix [(.int .i64 y0), (.int .i64 y1), (.int .i64 y2), (.int .i64 y3)])])))
 (.req (decide ((IntKind.wrap .i64 (y3 - x3)) > 0)) (.req true (.claim (opA (Plain.env tblC gK) (.load (.const (.pointer (some ⟨(Hc3).length, 0, none⟩))) (some 4)) [] (Hc3 ++ [some (Blk.mk .fix [(.int .i64 y0), (.int .i64 y1), (.int .i64 y2), (.int .i64 y3)])]) = some ((.agg ⟨[(.int .i64 y0), (.int .i64 y1), (.int .i64 y2), (.int .i64 y3)]⟩), (Hc3 ++ [some (Blk.mk .fix [(.int .i64 y0), (.int .i64 y1), (.int .i64 y2), (.int .i64 y3)])])))
 (.req true (.claim (opA (Plain.env tblC gK) (.load (.const (.pointer (some ⟨(H1).length, 0, none⟩))) (some 4)) [] (Hc3 ++ [some (Blk.mk .fix [(.int .i64 y0), (.int .i64 y1), (.int .i64 y2), (.int .i64 y3)])]) = some ((.agg ⟨[(.int .i64 x0), (.int .i64 x1), (.int .i64 x2), (.int .i64 x3)]⟩), (Hc3 ++ [some (Blk.mk .fix [(.int .i64 y0), (.int .i64 y1), (.int .i64 y2), (.int .i64 y3)])])))
 (.req true (.req (!((fromB ⟨y0, y1, y2, y3⟩ 0) != (fromB ⟨x0, x1, x2, x3⟩ 0))) (.req ((IntKind.wrap .i64 (0 + (IntKind.wrap .i64 (y3 - x3)))) != 0) (.claim (opA (Plain.env tblC gK) (.iadr 5 none (.const lt) (.const (.int .i64 (wn a2 0 (IntKind.wrap .i64 (n - 1)))))) [] (Hc3 ++ [some (Blk.mk .fix [(.int .i64 y0), (.int .i64 y1), (.int .i64 y2), (.int .i64 y3)])]) = some ((.pointer (some ⟨b, (o + 0), none⟩)), (Hc3 ++ [some (Blk.mk .fix [(.int .i64 y0), (.int .i64 y1), (.int .i64 y2), (.int .i64 y3)])])))
 (.claim (opA (Plain.env tblC gK) (.load (.const (.pointer (some ⟨b, (o + 1), none⟩))) none) [] (Hc3 ++ [some (Blk.mk .fix [(.int .i64 y0), (.int .i64 y1), (.int .i64 y2), (.int .i64 y3)])]) = some ((.int .i64 bal), (Hc3 ++ [some (Blk.mk .fix [(.int .i64 y0), (.int .i64 y1), (.int .i64 y2), (.int .i64 y3)])])))
 (.req (!((IntKind.wrap .i64 (0 + (IntKind.wrap .i64 (y3 - x3)))) != bal)) (.req true (.claim (opA (Plain.env tblC gK) (.load (.const (.pointer (some ⟨(Hc3).length, 0, none⟩))) (some 4)) [] (Hc3 ++ [some (Blk.mk .fix [(.int .i64 y0), (.int .i64 y1), (.int .i64 y2), (.int .i64 y3)])]) = some ((.agg ⟨[(.int .i64 y0), (.int .i64 y1), (.int .i64 y2), (.int .i64 y3)]⟩), (Hc3 ++ [some (Blk.mk .fix [(.int .i64 y0), (.int .i64 y1), (.int .i64 y2), (.int .i64 y3)])])))
 (.req true (.claim (opA (Plain.env tblC gK) (.load (.const (.pointer (some ⟨(H1).length, 0, none⟩))) (some 4)) [] (Hc3 ++ [some (Blk.mk .fix [(.int .i64 y0), (.int .i64 y1), (.int .i64 y2), (.int .i64 y3)])]) = some ((.agg ⟨[(.int .i64 x0), (.int .i64 x1), (.int .i64 x2), (.int .i64 x3)]⟩), (Hc3 ++ [some (Blk.mk .fix [(.int .i64 y0), (.int .i64 y1), (.int .i64 y2), (.int .i64 y3)])])))
 (.req true (.req (!(decide ((fromB ⟨y0, y1, y2, y3⟩ 0) < (fromB ⟨x0, x1, x2, x3⟩ 0)))) (.req true (.claim (opA (Plain.env tblC gK) (.load (.const (.pointer (some ⟨(Hc3).length, 0, none⟩))) (some 4)) [] (Hc3 ++ [some (Blk.mk .fix [(.int .i64 y0), (.int .i64 y1), (.int .i64 y2), (.int .i64 y3)])]) = some ((.agg ⟨[(.int .i64 y0), (.int .i64 y1), (.int .i64 y2), (.int .i64 y3)]⟩), (Hc3 ++ [some (Blk.mk .fix [(.int .i64 y0), (.int .i64 y1), (.int .i64 y2), (.int .i64 y3)])])))
 (.req true (.claim (opA (Plain.env tblC gK) (.load (.const (.pointer (some ⟨(H1).length, 0, none⟩))) (some 4)) [] (Hc3 ++ [some (Blk.mk .fix [(.int .i64 y0), (.int .i64 y1), (.int .i64 y2), (.int .i64 y3)])]) = some ((.agg ⟨[(.int .i64 x0), (.int .i64 x1), (.int .i64 x2), (.int .i64 x3)]⟩), (Hc3 ++ [some (Blk.mk .fix [(.int .i64 y0), (.int .i64 y1), (.int .i64 y2), (.int .i64 y3)])])))
 (.req true (.req (!(decide ((fromB ⟨y0, y1, y2, y3⟩ 1) < (fromB ⟨x0, x1, x2, x3⟩ 1)))) (.req true (.claim (opA (Plain.env tblC gK) (.load (.const (.pointer (some ⟨(Hc3).length, 0, none⟩))) (some 4)) [] (Hc3 ++ [some (Blk.mk .fix [(.int .i64 y0), (.int .i64 y1), (.int .i64 y2), (.int .i64 y3)])]) = some ((.agg ⟨[(.int .i64 y0), (.int .i64 y1), (.int .i64 y2), (.int .i64 y3)]⟩), (Hc3 ++ [some (Blk.mk .fix [(.int .i64 y0), (.int .i64 y1), (.int .i64 y2), (.int .i64 y3)])])))
 (.req true (.claim (opA (Plain.env tblC gK) (.load (.const (.pointer (some ⟨(H1).length, 0, none⟩))) (some 4)) [] (Hc3 ++ [some (Blk.mk .fix [(.int .i64 y0), (.int .i64 y1), (.int .i64 y2), (.int .i64 y3)])]) = some ((.agg ⟨[(.int .i64 x0), (.int .i64 x1), (.int .i64 x2), (.int .i64 x3)]⟩), (Hc3 ++ [some (Blk.mk .fix [(.int .i64 y0), (.int .i64 y1), (.int .i64 y2), (.int .i64 y3)])])))
 (.req true (.req (!(decide ((fromB ⟨y0, y1, y2, y3⟩ 2) < (fromB ⟨x0, x1, x2, x3⟩ 2)))) (.req true (.claim (opA (Plain.env tblC gK) (.load (.const (.pointer (some ⟨(Hc3).length, 0, none⟩))) (some 4)) [] (Hc3 ++ [some (Blk.mk .fix [(.int .i64 y0), (.int .i64 y1), (.int .i64 y2), (.int .i64 y3)])]) = some ((.agg ⟨[(.int .i64 y0), (.int .i64 y1), (.int .i64 y2), (.int .i64 y3)]⟩), (Hc3 ++ [some (Blk.mk .fix [(.int .i64 y0), (.int .i64 y1), (.int .i64 y2), (.int .i64 y3)])])))
 (.req true (.claim (opA (Plain.env tblC gK) (.load (.const (.pointer (some ⟨(H1).length, 0, none⟩))) (some 4)) [] (Hc3 ++ [some (Blk.mk .fix [(.int .i64 y0), (.int .i64 y1), (.int .i64 y2), (.int .i64 y3)])]) = some ((.agg ⟨[(.int .i64 x0), (.int .i64 x1), (.int .i64 x2), (.int .i64 x3)]⟩), (Hc3 ++ [some (Blk.mk .fix [(.int .i64 y0), (.int .i64 y1), (.int .i64 y2), (.int .i64 y3)])])))
 (.req true (.req (!(decide ((fromB ⟨y0, y1, y2, y3⟩ 3) < (fromB ⟨x0, x1, x2, x3⟩ 3)))) (.req true (.claim (opA (Plain.env tblC gK) (.load (.const (.pointer (some ⟨(Hc3).length, 0, none⟩))) (some 4)) [] (Hc3 ++ [some (Blk.mk .fix [(.int .i64 y0), (.int .i64 y1), (.int .i64 y2), (.int .i64 y3)])]) = some ((.agg ⟨[(.int .i64 y0), (.int .i64 y1), (.int .i64 y2), (.int .i64 y3)]⟩), (Hc3 ++ [some (Blk.mk .fix [(.int .i64 y0), (.int .i64 y1), (.int .i64 y2), (.int .i64 y3)])])))
 (.req true (.claim (opA (Plain.env tblC gK) (.load (.const (.pointer (some ⟨(H1).length, 0, none⟩))) (some 4)) [] (Hc3 ++ [some (Blk.mk .fix [(.int .i64 y0), (.int .i64 y1), (.int .i64 y2), (.int .i64 y3)])]) = some ((.agg ⟨[(.int .i64 x0), (.int .i64 x1), (.int .i64 x2), (.int .i64 x3)]⟩), (Hc3 ++ [some (Blk.mk .fix [(.int .i64 y0), (.int .i64 y1), (.int .i64 y2), (.int .i64 y3)])])))
 (.req true (.req (!(decide ((fromB ⟨y0, y1, y2, y3⟩ 4) < (fromB ⟨x0, x1, x2, x3⟩ 4)))) (.claim (opA (Plain.env tblC gK) (.iadr 5 none (.const lt) (.const (.int .i64 (wn a2 0 (IntKind.wrap .i64 (n - 1)))))) [] (Hc3 ++ [some (Blk.mk .fix [(.int .i64 y0), (.int .i64 y1), (.int .i64 y2), (.int .i64 y3)])]) = some ((.pointer (some ⟨b, (o + 0), none⟩)), (Hc3 ++ [some (Blk.mk .fix [(.int .i64 y0), (.int .i64 y1), (.int .i64 y2), (.int .i64 y3)])])))
 (.claim (opA (Plain.env tblC gK) (.store (.const (.pointer (some ⟨b, (o + 1), none⟩))) (.const (.int .i64 0)) 1) [] (Hc3 ++ [some (Blk.mk .fix [(.int .i64 y0), (.int .i64 y1), (.int .i64 y2), (.int .i64 y3)])]) = some ((.tuple ⟨[]⟩), Hc1))
 (.req true (.claim (opA (Plain.env tblC gK) (.call 24 [(.const lt)]) [] Hc1 = some ((.agg ⟨[(.int .i64 z0), (.int .i64 z1), (.int .i64 z2), (.int .i64 z3)]⟩), Hc1))
 (.req true (.claim (opA (Plain.env tblC gK) (.load (.const (.pointer (some ⟨(H1).length, 0, none⟩))) (some 4)) [] Hc1 = some ((.agg ⟨[(.int .i64 x0), (.int .i64 x1), (.int .i64 x2), (.int .i64 x3)]⟩), Hc1))
 (.req true (.claim (opA (Plain.env tblC gK) (.iadr 5 none (.const l) (.const (.int .i64 (wn a2 0 (IntKind.wrap .i64 (n - 1)))))) [] Hc1 = some ((.pointer (some ⟨bl, (o + 0), none⟩)), Hc1))
 (.claim (opA (Plain.env tblC gK) (.load (.const (.pointer (some ⟨bl, (o + 1), none⟩))) none) [] Hc1 = some ((.int .i64 bal), Hc1))
 (.req (!((fromB ⟨z0, z1, z2, z3⟩ 0) != (IntKind.wrap .i64 ((fromB ⟨x0, x1, x2, x3⟩ 0) - bal)))) (.req true (.claim (opA (Plain.env tblC gK) (.load (.const (.pointer (some ⟨(H1).length, 0, none⟩))) (some 4)) [] Hc1 = some ((.agg ⟨[(.int .i64 x0), (.int .i64 x1), (.int .i64 x2), (.int .i64 x3)]⟩), Hc1))
 (.req true (.claim (opA (Plain.env tblC gK) (.load (.const (.pointer (some ⟨(H1).length, 0, none⟩))) (some 4)) [] Hc1 = some ((.agg ⟨[(.int .i64 x0), (.int .i64 x1), (.int .i64 x2), (.int .i64 x3)]⟩), Hc1))
 (.req true (.req (!(decide ((fromB ⟨x0, x1, x2, x3⟩ 0) < (fromB ⟨x0, x1, x2, x3⟩ 1)))) (.req true (.claim (opA (Plain.env tblC gK) (.load (.const (.pointer (some ⟨(H1).length, 0, none⟩))) (some 4)) [] Hc1 = some ((.agg ⟨[(.int .i64 x0), (.int .i64 x1), (.int .i64 x2), (.int .i64 x3)]⟩), Hc1))
 (.req true (.claim (opA (Plain.env tblC gK) (.load (.const (.pointer (some ⟨(H1).length, 0, none⟩))) (some 4)) [] Hc1 = some ((.agg ⟨[(.int .i64 x0), (.int .i64 x1), (.int .i64 x2), (.int .i64 x3)]⟩), Hc1))
 (.req true (.req (!(decide ((fromB ⟨x0, x1, x2, x3⟩ 1) < (fromB ⟨x0, x1, x2, x3⟩ 2)))) (.req true (.claim (opA (Plain.env tblC gK) (.load (.const (.pointer (some ⟨(H1).length, 0, none⟩))) (some 4)) [] Hc1 = some ((.agg ⟨[(.int .i64 x0), (.int .i64 x1), (.int .i64 x2), (.int .i64 x3)]⟩), Hc1))
 (.req true (.claim (opA (Plain.env tblC gK) (.load (.const (.pointer (some ⟨(H1).length, 0, none⟩))) (some 4)) [] Hc1 = some ((.agg ⟨[(.int .i64 x0), (.int .i64 x1), (.int .i64 x2), (.int .i64 x3)]⟩), Hc1))
 (.req true (.req (!(decide ((fromB ⟨x0, x1, x2, x3⟩ 2) < (fromB ⟨x0, x1, x2, x3⟩ 3)))) (.req true (.claim (opA (Plain.env tblC gK) (.load (.const (.pointer (some ⟨(H1).length, 0, none⟩))) (some 4)) [] Hc1 = some ((.agg ⟨[(.int .i64 x0), (.int .i64 x1), (.int .i64 x2), (.int .i64 x3)]⟩), Hc1))
 (.req true (.claim (opA (Plain.env tblC gK) (.load (.const (.pointer (some ⟨(H1).length, 0, none⟩))) (some 4)) [] Hc1 = some ((.agg ⟨[(.int .i64 x0), (.int .i64 x1), (.int .i64 x2), (.int .i64 x3)]⟩), Hc1))
 (.req true (.req (!(decide ((fromB ⟨x0, x1, x2, x3⟩ 3) < (fromB ⟨x0, x1, x2, x3⟩ 4)))) (.req true (.claim (opA (Plain.env tblC gK) (.load (.const (.pointer (some ⟨(H1).length, 0, none⟩))) (some 4)) [] Hc1 = some ((.agg ⟨[(.int .i64 x0), (.int .i64 x1), (.int .i64 x2), (.int .i64 x3)]⟩), Hc1))
 (.req true (.claim (opA (Plain.env tblC gK) (.load (.const (.pointer (some ⟨(H1).length, 0, none⟩))) (some 4)) [] Hc1 = some ((.agg ⟨[(.int .i64 x0), (.int .i64 x1), (.int .i64 x2), (.int .i64 x3)]⟩), Hc1))
 (.req true (.req (!(decide ((fromB ⟨x0, x1, x2, x3⟩ 4) < (fromB ⟨x0, x1, x2, x3⟩ 5)))) (.req true (.claim (opA (Plain.env tblC gK) (.load (.const (.pointer (some ⟨(H1).length, 0, none⟩))) (some 4)) [] Hc1 = some ((.agg ⟨[(.int .i64 x0), (.int .i64 x1), (.int .i64 x2), (.int .i64 x3)]⟩), Hc1))
 (.req true (.claim (opA (Plain.env tblC gK) (.load (.const (.pointer (some ⟨(H1).length, 0, none⟩))) (some 4)) [] Hc1 = some ((.agg ⟨[(.int .i64 x0), (.int .i64 x1), (.int .i64 x2), (.int .i64 x3)]⟩), Hc1))
 (.req true (.req ((fromB ⟨x0, x1, x2, x3⟩ (-1)) == (fromB ⟨x0, x1, x2, x3⟩ 0)) (.claim (opA (Plain.env tblC gK) (.load (.const (.pointer (some ⟨(H1).length, 0, none⟩))) (some 4)) [] Hc1 = some ((.agg ⟨[(.int .i64 x0), (.int .i64 x1), (.int .i64 x2), (.int .i64 x3)]⟩), Hc1))
 (.req true (.req ((fromB ⟨x0, x1, x2, x3⟩ 4) == 0) (.req true (.ret (pk .ret (fr 160 [(6, (.bool true))])) Hc1))))))))))))))))))))))))))))))))))))))))))))))))))))))))))))))))))))))))))))))))))))))))))))))))))))))))))))))))))))))))) := by kernel_rfl

structure In10 (h0 : Heap) (l : Value) (rows : List (List Value)) (H : Heap) : Prop where
  len : h0.length ≤ H.length
  sub : ∀ B blk, rd h0 B = some blk → rd H B = some blk
  ll : LsOf 5 h0.length H l rows
abbrev fr10 (s0 s1 : Value) (a2 : Int) (l : Value) (i : Int) : Fr := fr 160 [(0, s0), (1, s1), (2, (.int .i64 a2)), (6, (.bool false)), (7, l), (8, (.int .i64 i))]
def inv10 (h0 : Heap) (s0 s1 : Value) (a2 : Int) (bs ms : List Int) (m : Nat) (t : Fr) (H : Heap) : Prop :=
  ∃ (i : Nat) (l : Value), i + m = min bs.length 20 ∧ t = fr10 s0 s1 a2 l i ∧ In10 h0 l ((loTo2 bs ms i).map Lo.enc) H
theorem loop10 {h0 : Heap} {s0 s1 : Value} {a2 : Int} {bs ms : List Int} (hb : RowsAt 1 h0 s0 (nums bs)) (hm : RowsAt 1 h0 s1 (nums ms)) :
    Wp (Plain.env tblC gK) (inL [2, 6, 7]) (.block 0 (.loop body10_0)) (fr10 s0 s1 a2 (.slice none 0 0) 0) h0 fun e t H => ∃ l, e = .normal ∧ t = fr 160 [(2, (.int .i64 a2)), (6, (.bool false)), (7, l)] ∧ In10 h0 l ((loTo2 bs ms (min bs.length 20)).map Lo.enc) H := by
  have nil9 : LsOf 5 h0.length h0 (.slice none 0 0) ((loTo2 bs ms 0).map Lo.enc) := ⟨by simp [loTo2], .inl ⟨rfl, rfl⟩⟩
  refine Wp.block ((Wp.loop (K := fun e t H => ∃ l, e = .exit 0 ∧ t = fr10 s0 s1 a2 l (min bs.length 20 : Nat) ∧ In10 h0 l ((loTo2 bs ms (min bs.length 20)).map Lo.enc) H) (inv10 h0 s0 s1 a2 bs ms) ?_ (min bs.length 20) _ _ ⟨0, _, by omega, rfl, ⟨Nat.le_refl _, fun _ _ e => e, nil9⟩⟩).ends fun e t H ⟨l, q1, q2, q3⟩ => ?_)
  rotate_right
  · subst q1 q2
    exact ⟨_, norm_ag (inL [2, 6, 7]) _, l, rfl, by kernel_rfl, q3⟩
  rintro m t H ⟨i, l, hi, ht, hI⟩
  subst ht
  have hbH := hb.more hI.sub
  have hmH := hm.more hI.sub
  have hlen0 : ∀ Γ, opA Γ (.len (.const s0)) [] H = some ((.int .i64 bs.length), H) := fun Γ => by have := hbH.len (Γ := Γ) (H := H); rw [nums, List.length_map] at this; exact this
  have hlen1 : ∀ Γ, opA Γ (.len (.const s1)) [] H = some ((.int .i64 ms.length), H) := fun Γ => by have := hmH.len (Γ := Γ) (H := H); rw [nums, List.length_map] at this; exact this
  cases m with
  | zero =>
    have hil : i = min bs.length 20 := by omega
    refine Wp.piece 100 (hn10x s0 s1 l l s0 s1 a2 bs.length 0 i 0 0 H H) ?_
    rw [tree10x]
    refine ⟨hlen0 _, by simp, ?_, outP_pk ⟨l, rfl, by rw [hil], by subst hil; exact hI⟩⟩
    by_cases hq : (i : Int) < bs.length
    · have : ¬ (i : Int) < 20 := by omega
      simp [hq, this] <;> omega
    · simp [hq] <;> omega
  | succ m =>
    have hlt : i < bs.length := by omega
    have hlt2 : i < 20 := by omega
    have hx : bs[i]? = some bs[i] := List.getElem?_eq_getElem hlt
    have hgd : bs.getD i 0 = bs[i] := by simp [List.getD, hx]
    obtain ⟨q0, p1, _, p3⟩ := hbH.at_ (i := i) (row := [.int .i64 (bs.getD i 0)]) (by rw [nums, List.getElem?_map, hx, hgd]; rfl)
    have w3 : IntKind.wrap .i64 ((i : Int) + 1) = ((i + 1 : Nat) : Int) := by rw [wrap_id (by omega) (by omega)]; rfl
    have hll : ((loTo2 bs ms i).map Lo.enc).length = i := by rw [List.length_map, loTo2_len]
    obtain ⟨l2, H2, g1, g3, g4, g5, _⟩ := ls_grow (eby := 40) (row := (loAt2 bs ms i).enc) hI.ll rfl (by decide) (by rw [hll]; omega) (by rw [hll]; omega) hI.len
    rw [← loTo2_succ] at g3
    have hn : In10 h0 l2 ((loTo2 bs ms (i + 1)).map Lo.enc) H2 := ⟨Nat.le_trans hI.len g4, fun B blk e => g5 B blk (hI.sub B blk e) fun n c el => by have := (ls_in hI.ll el).1; have := rd_lt e; omega, g3⟩
    have c1 : (bif decide ((i : Int) < bs.length) then decide ((i : Int) < 20) else false) = true := by
      have h1 : (i : Int) < bs.length := by omega
      have h2 : (i : Int) < 20 := by omega
      simp [h1, h2] <;> omega
    by_cases hm2 : i < ms.length
    · have hy : ms[i]? = some ms[i] := List.getElem?_eq_getElem hm2
      have hgd2 : ms.getD i 0 = ms[i] := by simp [List.getD, hy]
      obtain ⟨q1, r1, _, r3⟩ := hmH.at_ (i := i) (row := [.int .i64 (ms.getD i 0)]) (by rw [nums, List.getElem?_map, hy, hgd2]; rfl)
      have hmA : mAt2 ms i = wn (ms.getD i 0) 0 11 := by simp only [mAt2, hm2, if_true]
      refine Wp.piece 100 (hn10y s0 s1 l l2 q0 q1 a2 bs.length ms.length i (bs.getD i 0) (ms.getD i 0) H H2) ?_
      rw [tree10y, w3, ← hmA]
      exact ⟨hlen0 _, by simp, c1, hlen1 _, by simp <;> omega, r1 _ _, r3 _ _ rfl rfl, by decide, p1 _ _, p3 _ _ rfl rfl, by decide, rfl, g1 _, outP_pk ⟨m, by omega, i + 1, l2, by omega, rfl, hn⟩⟩
    · have hmA : mAt2 ms i = 0 := by simp only [mAt2, hm2, if_false]
      have he : (loAt2 bs ms i).enc = [(.int .i64 0), (.int .i64 (wn (bs.getD i 0) 0 1073741824)), (.int .i64 0), (.int .i64 0), (.bool false)] := by simp only [loAt2, Lo.enc, hmA]
      rw [he] at g1
      refine Wp.piece 100 (hn10n s0 s1 l l2 q0 q0 a2 bs.length ms.length i (bs.getD i 0) 0 H H2) ?_
      rw [tree10n, w3]
      exact ⟨hlen0 _, by simp, c1, hlen1 _, by simp <;> omega, p1 _ _, p3 _ _ rfl rfl, by decide, rfl, g1 _, outP_pk ⟨m, by omega, i + 1, l2, by omega, rfl, hn⟩⟩
theorem start10 (s0 s1 : Value) (a2 : Int) : (([s0, s1, .int .i64 a2] : List Value) ++ List.replicate (il10.ntmps - ([s0, s1, .int .i64 a2] : List Value).length) undef) = fr 160 [(0, s0), (1, s1), (2, (.int .i64 a2))] := by kernel_rfl
set_option maxHeartbeats 8000000 in
theorem moves_law {H : Heap} {s0 s1 : Value} {bs ms : List Int} (hb : RowsAt 1 H s0 (nums bs)) (hm : RowsAt 1 H s1 (nums ms)) (a2 : Int) : Sim Try.prog 10 [s0, s1, .int .i64 a2] H fun v _ => v = .bool true := by
  refine wp_sim' mixed (Plain.ok okC gK_ok) (Plain.quiet gK_quiet) st10 ?_
  rw [start10, show il10.res = [.tmp 6] from rfl]
  obtain ⟨e, t, H1, ⟨l, k1, k2, k3⟩, w⟩ := (loop10 (a2 := a2) hb hm).exact
  subst k1 k2
  have hlen20 : (loTo2 bs ms (min bs.length 20)).length ≤ 20 := by rw [loTo2_len]; omega
  have hin := loTo2_in bs ms (min bs.length 20)
  generalize loTo2 bs ms (min bs.length 20) = ls at *
  have rl := ls_rows k3.ll
  have hlen : ∀ Γ H', opA Γ (.len (.const l)) [] H' = some ((.int .i64 ls.length), H') := fun Γ H' => by have := rl.len (Γ := Γ) (H := H'); rw [List.length_map] at this; exact this
  have n0 : ls.length ≤ 1099511627776 := by omega
  have ex0 := of_at rl n0
  have okX := ok_buc ls (fun x hx => (hin x hx).1) (by omega)
  have bigX : Ok 1073741824000 (buc ls) := by obtain ⟨a, b, c, d, e, f, g, i⟩ := okX; exact ⟨a, by omega, c, by omega, e, by omega, g, by omega⟩
  obtain ⟨fX0, fX1, fX2, fX3, fX4, fX5, fXm⟩ := from_ex _ bigX
  by_cases hz : ls = []
  · refine Wp.piece 200 (hn10ke s0 s1 l l a2 ls.length 0 0 0 0 0 (buc ls).p (buc ls).q (buc ls).r (buc ls).s 0 0 0 0 0 0 0 0 H H1 H1 H1 H1) ?_
    rw [tree10ke]
    obtain ⟨a, b, c, d, e, f, g, i⟩ := okX
    generalize buc ls = X at *
    refine ⟨w, ?_⟩
    refine ⟨ex0, ?_⟩
    refine ⟨st_ (rd_last rfl) (by intro q; cases q) rfl rfl (by simp) rfl (set_last rfl), ?_⟩
    refine ⟨hlen _ _, ?_⟩
    refine ⟨(by simp [hz]), ?_⟩
    refine ⟨rfl, ?_⟩
    refine ⟨ldn (rd_last rfl) (by simp) rfl, ?_⟩
    refine ⟨rfl, ?_⟩
    refine ⟨ldn (rd_last rfl) (by simp) rfl, ?_⟩
    refine ⟨rfl, ?_⟩
    refine ⟨(by simp only [fX0, fX1, fX2, fX3, fX4, fX5, fXm]; simp <;> omega), ?_⟩
    refine ⟨rfl, ?_⟩
    refine ⟨ldn (rd_last rfl) (by simp) rfl, ?_⟩
    refine ⟨rfl, ?_⟩
    refine ⟨ldn (rd_last rfl) (by simp) rfl, ?_⟩
    refine ⟨rfl, ?_⟩
    refine ⟨(by simp only [fX0, fX1, fX2, fX3, fX4, fX5, fXm]; simp <;> omega), ?_⟩
    refine ⟨rfl, ?_⟩
    refine ⟨ldn (rd_last rfl) (by simp) rfl, ?_⟩
    refine ⟨rfl, ?_⟩
    refine ⟨ldn (rd_last rfl) (by simp) rfl, ?_⟩
    refine ⟨rfl, ?_⟩
    refine ⟨(by simp only [fX0, fX1, fX2, fX3, fX4, fX5, fXm]; simp <;> omega), ?_⟩
    refine ⟨rfl, ?_⟩
    refine ⟨ldn (rd_last rfl) (by simp) rfl, ?_⟩
    refine ⟨rfl, ?_⟩
    refine ⟨ldn (rd_last rfl) (by simp) rfl, ?_⟩
    refine ⟨rfl, ?_⟩
    refine ⟨(by simp only [fX0, fX1, fX2, fX3, fX4, fX5, fXm]; simp <;> omega), ?_⟩
    refine ⟨rfl, ?_⟩
    refine ⟨ldn (rd_last rfl) (by simp) rfl, ?_⟩
    refine ⟨rfl, ?_⟩
    refine ⟨ldn (rd_last rfl) (by simp) rfl, ?_⟩
    refine ⟨rfl, ?_⟩
    refine ⟨(by simp only [fX0, fX1, fX2, fX3, fX4, fX5, fXm]; simp <;> omega), ?_⟩
    refine ⟨rfl, ?_⟩
    refine ⟨ldn (rd_last rfl) (by simp) rfl, ?_⟩
    refine ⟨rfl, ?_⟩
    refine ⟨ldn (rd_last rfl) (by simp) rfl, ?_⟩
    refine ⟨rfl, ?_⟩
    refine ⟨(by simp only [fX0, fX1, fX2, fX3, fX4, fX5, fXm]; simp <;> omega), ?_⟩
    refine ⟨ldn (rd_last rfl) (by simp) rfl, ?_⟩
    refine ⟨rfl, ?_⟩
    refine ⟨(by simp only [fX0, fX1, fX2, fX3, fX4, fX5, fXm]; simp <;> omega), ?_⟩
    refine ⟨rfl, ?_⟩
    exact outP_pk ⟨.inr rfl, _, rfl, rfl⟩

  have hpos : 0 < ls.length := List.length_pos_iff.2 hz
  have wn1 : IntKind.wrap .i64 ((ls.length : Int) - 1) = (ls.length : Int) - 1 := wrap_id (by omega) (by omega)
  obtain ⟨k, hk⟩ : ∃ k : Nat, wn a2 0 ((ls.length : Int) - 1) = k := ⟨(wn a2 0 ((ls.length : Int) - 1)).toNat, by have := wn_lo (x := a2) (lo := 0) (hi := (ls.length : Int) - 1) (by omega); omega⟩
  have hkl : k < ls.length := by have := wn_hi (x := a2) (lo := 0) (hi := (ls.length : Int) - 1) (by omega); omega
  have hpre : preWithin 0 ((ls.length : Int) - 1) = true := by simp [preWithin]; omega
  have hx : ls[k]? = some ls[k] := List.getElem?_eq_getElem hkl
  have hsl : ls.set k ls[k] = ls := List.set_getElem_self hkl
  have hix := hin ls[k] (List.getElem_mem hkl)
  generalize ls[k] = x at hx hsl hix
  obtain ⟨⟨b0, b1⟩, m0, m1⟩ := hix
  have wm : IntKind.wrap .i64 (x.m + 1) = x.m + 1 := wrap_id (by omega) (by omega)
  -- the list's own block
  obtain ⟨Bl, hl, cl⟩ : ∃ Bl, l = .slice (some ⟨Bl, 0, none⟩) ls.length ls.length ∧ Cp5 H1 Bl ls := by
    obtain ⟨_, ⟨q, _⟩ | ⟨B, q1, _, _, q4⟩⟩ := k3.ll
    · simp at q; exact absurd q hz
    · exact ⟨B, by simpa using q1, ⟨q4⟩⟩
  have hBl := rd_lt cl.r
  obtain ⟨Xb, hXb⟩ : ∃ Xb, Xb = Blk.mk .fix [(.int .i64 (buc ls).p), (.int .i64 (buc ls).q), (.int .i64 (buc ls).r), (.int .i64 (buc ls).s)] := ⟨_, rfl⟩
  have eapp := ls_copy (eby := 40) (HH := H1 ++ [some Xb]) k3.ll (by simpa using hz) (by decide) (by rw [List.length_map]; omega) (by rw [List.length_map]; omega) (fun B blk e => rd_old e) (Plain.env tblC gK)
  rw [List.length_map] at eapp
  obtain ⟨Hb, hHb⟩ : ∃ Hb, Hb = ((H1 ++ [some Xb]) ++ [some (Blk.mk .fix [])]) ++ [some ⟨.grown 5, (ls.map Lo.enc).flatten⟩] := ⟨_, rfl⟩
  obtain ⟨B, hBd⟩ : ∃ B, B = ((H1 ++ [some Xb]) ++ [some (Blk.mk .fix [])]).length := ⟨_, rfl⟩
  have cp : Cp5 Hb B ls := ⟨by subst hHb hBd; exact rd_last rfl⟩
  have xb : rd Hb H1.length = some Xb := by subst hHb; exact rd_old (rd_old (rd_last rfl))
  have lb : rd Hb Bl = some ⟨.grown 5, (ls.map Lo.enc).flatten⟩ := by subst hHb; exact rd_old (rd_old (rd_old cl.r))
  rw [← hHb, ← hBd] at eapp
  have hB1 : H1.length ≠ B := by subst hBd; simp
  have hB2 : Bl ≠ B := by subst hBd; simp; omega
  clear hBd
  obtain ⟨Hc3, e3, c3, pr3⟩ := cp.store (x' := ⟨x.a, x.b, x.c, x.m + 1, x.d⟩) (f := 3) (z := x.m + 1) hx (by decide) rfl
  have self1 : (ls.set k ⟨x.a, x.b, x.c, x.m + 1, x.d⟩)[k]? = some ⟨x.a, x.b, x.c, x.m + 1, x.d⟩ := by simp [hkl]
  have ey := of_at (c3.rows (n := ls.length) (by simp)) (by simp; omega)
  -- the sums
  have hin' : ∀ (A : List Lo), (∀ z ∈ A, z ∈ ls) → A.length ≤ 100 → Ok 107374182400 (buc A) := fun A h hn => ok_buc A (fun z hz => (hin z (h z hz)).1) hn
  have oA := hin' (ls.take k) (fun z h => List.mem_of_mem_take h) (by rw [List.length_take]; omega)
  have oB := hin' (ls.drop (k + 1)) (fun z h => List.mem_of_mem_drop h) (by rw [List.length_drop]; omega)
  have hset : ∀ z : Lo, ls.set k z = ls.take k ++ z :: ls.drop (k + 1) := fun z => List.set_eq_take_append_cons_drop.trans (if_pos hkl)
  have hX : buc ls = _ := (congrArg buc (hsl.symm.trans (hset x))).trans (buc_split _ _ x oA oB b0 b1)
  have hY : buc (ls.set k ⟨x.a, x.b, x.c, x.m + 1, x.d⟩) = _ := (congrArg buc (hset _)).trans (buc_split _ _ ⟨x.a, x.b, x.c, x.m + 1, x.d⟩ oA oB b0 b1)
  have e0 : (ls.set k (⟨x.a, x.b, x.c, x.m + 1, x.d⟩ : Lo)).set k ⟨x.a, 0, x.c, x.m + 1, x.d⟩ = ls.set k ⟨x.a, 0, x.c, x.m + 1, x.d⟩ := by rw [List.set_set]
  have hZ := (congrArg buc (e0.trans (hset ⟨x.a, 0, x.c, x.m + 1, x.d⟩))).trans (buc_split _ _ ⟨x.a, 0, x.c, x.m + 1, x.d⟩ oA oB (by simp) (by simp))
  obtain ⟨hk2, hk3⟩ := bk_next x.m
  simp only at hY hZ
  have hZ' : buc ((ls.set k ⟨x.a, x.b, x.c, x.m + 1, x.d⟩).set k ⟨x.a, 0, x.c, x.m + 1, x.d⟩) = ⟨(buc (ls.take k)).p + (buc (ls.drop (k + 1))).p, (buc (ls.take k)).q + (buc (ls.drop (k + 1))).q, (buc (ls.take k)).r + (buc (ls.drop (k + 1))).r, (buc (ls.take k)).s + (buc (ls.drop (k + 1))).s⟩ := by rw [hZ]; simp
  clear hZ
  obtain ⟨Yb, hYb⟩ : ∃ Yb, Yb = Blk.mk .fix [(.int .i64 (buc (ls.set k ⟨x.a, x.b, x.c, x.m + 1, x.d⟩)).p), (.int .i64 (buc (ls.set k ⟨x.a, x.b, x.c, x.m + 1, x.d⟩)).q), (.int .i64 (buc (ls.set k ⟨x.a, x.b, x.c, x.m + 1, x.d⟩)).r), (.int .i64 (buc (ls.set k ⟨x.a, x.b, x.c, x.m + 1, x.d⟩)).s)] := ⟨_, rfl⟩
  have c3' : Cp5 (Hc3 ++ [some Yb]) B (ls.set k ⟨x.a, x.b, x.c, x.m + 1, x.d⟩) := ⟨rd_old c3.r⟩
  obtain ⟨Hc1, e1, c1, pr1⟩ := c3'.store (x' := ⟨x.a, 0, x.c, x.m + 1, x.d⟩) (f := 1) (z := 0) self1 (by decide) rfl
  have ez := of_at (c1.rows (n := ls.length) (by simp)) (by simp; omega)
  have xb3 : rd (Hc3 ++ [some Yb]) H1.length = some Xb := rd_old (pr3 _ _ hB1 xb)
  have xb1 : rd Hc1 H1.length = some Xb := pr1 _ _ hB1 xb3
  have lb1 : rd Hc1 Bl = some ⟨.grown 5, (ls.map Lo.enc).flatten⟩ := pr1 _ _ hB2 (rd_old (pr3 _ _ hB2 lb))
  have yb3 : rd (Hc3 ++ [some Yb]) Hc3.length = some Yb := rd_last rfl
  have gm : ((ls.map Lo.enc).flatten)[k * 5 + 3]? = some (.int .i64 x.m) := get5 hx (by decide) rfl
  have gb : ((ls.map Lo.enc).flatten)[k * 5 + 1]? = some (.int .i64 x.b) := get5 hx (by decide) rfl
  have gb3 : (((ls.set k ⟨x.a, x.b, x.c, x.m + 1, x.d⟩).map Lo.enc).flatten)[k * 5 + 1]? = some (.int .i64 x.b) := get5 self1 (by decide) rfl
  generalize buc ls = X at *
  generalize buc (ls.set k ⟨x.a, x.b, x.c, x.m + 1, x.d⟩) = Y at *
  generalize buc ((ls.set k ⟨x.a, x.b, x.c, x.m + 1, x.d⟩).set k ⟨x.a, 0, x.c, x.m + 1, x.d⟩) = Z at *
  generalize buc (ls.take k) = P at *
  generalize buc (ls.drop (k + 1)) = Q at *
  obtain ⟨p0, p1, q0, q1, r0, r1, s0', s1'⟩ := oA
  obtain ⟨u0, u1, v0, v1, w0, w1, z0', z1'⟩ := oB
  generalize bkN x.m = j1 at *
  generalize bkN (x.m + 1) = j2 at *
  have Y0 : Y.p = _ := congrArg Bu.p hY
  have Y1 : Y.q = _ := congrArg Bu.q hY
  have Y2 : Y.r = _ := congrArg Bu.r hY
  have Y3 : Y.s = _ := congrArg Bu.s hY
  have X0 : X.p = _ := congrArg Bu.p hX
  have X1 : X.q = _ := congrArg Bu.q hX
  have X2 : X.r = _ := congrArg Bu.r hX
  have X3 : X.s = _ := congrArg Bu.s hX
  have Z0 : Z.p = _ := congrArg Bu.p hZ'
  have Z1 : Z.q = _ := congrArg Bu.q hZ'
  have Z2 : Z.r = _ := congrArg Bu.r hZ'
  have Z3 : Z.s = _ := congrArg Bu.s hZ'
  simp only at X0 X1 X2 X3 Y0 Y1 Y2 Y3 Z0 Z1 Z2 Z3
  clear hX hY hZ'
  have yB : Ok 1073741824000 Y := by
    refine ⟨?_, ?_, ?_, ?_, ?_, ?_, ?_, ?_⟩
    all_goals first | rw [Y0] | rw [Y1] | rw [Y2] | rw [Y3]
    all_goals split <;> omega
  have zB : Ok 1073741824000 Z := ⟨by omega, by omega, by omega, by omega, by omega, by omega, by omega, by omega⟩
  obtain ⟨fY0, fY1, fY2, fY3, fY4, _, _⟩ := from_ex _ yB
  obtain ⟨fZ0, _⟩ := from_ex _ zB
  obtain ⟨xa0, xa1, xq0, xq1, xr0, xr1, xs0, xs1⟩ := bigX
  obtain ⟨ya0, ya1, yq0, yq1, yr0, yr1, ys0, ys1⟩ := yB
  have wd0 : IntKind.wrap .i64 (Y.p - X.p) = Y.p - X.p := wrap_id (by omega) (by omega)
  have wd1 : IntKind.wrap .i64 (Y.q - X.q) = Y.q - X.q := wrap_id (by omega) (by omega)
  have wd2 : IntKind.wrap .i64 (Y.r - X.r) = Y.r - X.r := wrap_id (by omega) (by omega)
  have wd3 : IntKind.wrap .i64 (Y.s - X.s) = Y.s - X.s := wrap_id (by omega) (by omega)
  have wm1 : IntKind.wrap .i64 (0 + (Y.q - X.q)) = Y.q - X.q := by rw [wrap_id (by omega) (by omega)]; omega
  have wm2 : IntKind.wrap .i64 (0 + (Y.r - X.r)) = Y.r - X.r := by rw [wrap_id (by omega) (by omega)]; omega
  have wm3 : IntKind.wrap .i64 (0 + (Y.s - X.s)) = Y.s - X.s := by rw [wrap_id (by omega) (by omega)]; omega
  have wb : IntKind.wrap .i64 (X.p + X.q + X.r + X.s - x.b) = X.p + X.q + X.r + X.s - x.b := wrap_id (by omega) (by omega)
  subst hl
  by_cases hs : j2 = j1 ∨ x.b = 0
  · have t0 : Y.p = X.p := by rw [Y0, X0]; rcases hs with hs | hs <;> rw [hs] <;> simp
    have t1 : Y.q = X.q := by rw [Y1, X1]; rcases hs with hs | hs <;> rw [hs] <;> simp
    have t2 : Y.r = X.r := by rw [Y2, X2]; rcases hs with hs | hs <;> rw [hs] <;> simp
    have t3 : Y.s = X.s := by rw [Y3, X3]; rcases hs with hs | hs <;> rw [hs] <;> simp
    have tz : Z.p + Z.q + Z.r + Z.s = X.p + X.q + X.r + X.s - x.b := by
      have h4 : j1 = 0 ∨ j1 = 1 ∨ j1 = 2 ∨ j1 = 3 := by omega
      rw [X0, X1, X2, X3, Z0, Z1, Z2, Z3]
      rcases h4 with h4 | h4 | h4 | h4 <;> rw [h4] <;> simp <;> omega
    clear p0 p1 q0 q1 r0 r1 s0' s1' u0 u1 v0 v1 w0 w1 z0' z1' xa1 xq1 xr1 xs1 ya0 ya1 yq0 yq1 yr0 yr1 ys0 ys1 zB okX hin hin' n0 hlen20 X0 X1 X2 X3 Y0 Y1 Y2 Y3 Z0 Z1 Z2 Z3 hk2 hk3 hB1 hB2 hBl hset e0 pr1 pr3 m0 m1 hpos hsl hs
    refine Wp.piece 200 (hn10k0 s0 s1 (.slice (some ⟨Bl, 0, none⟩) ls.length ls.length) (.slice (some ⟨B, 0, none⟩) ls.length ls.length) a2 ls.length x.m x.b B Bl (k * 5) X.p X.q X.r X.s Y.p Y.q Y.r Y.s Z.p Z.q Z.r Z.s H H1 Hb Hc3 Hc1) ?_
    rw [tree10k0, wn1, hk, wm]
    subst hXb hYb
    refine ⟨w, ?_⟩
    refine ⟨ex0, ?_⟩
    refine ⟨st_ (rd_last rfl) (by intro q; cases q) rfl rfl (by simp) rfl (set_last rfl), ?_⟩
    refine ⟨hlen _ _, ?_⟩
    refine ⟨(by simp; omega), ?_⟩
    refine ⟨hlen _ _, ?_⟩
    refine ⟨hpre, ?_⟩
    refine ⟨eapp, ?_⟩
    refine ⟨at5 hkl _ _, ?_⟩
    refine ⟨ld1 cp.r gm, ?_⟩
    refine ⟨at5 hkl _ _, ?_⟩
    refine ⟨e3 _, ?_⟩
    refine ⟨ey, ?_⟩
    refine ⟨st_ (rd_last rfl) (by intro q; cases q) rfl rfl (by simp) rfl (set_last rfl), ?_⟩
    refine ⟨rfl, ?_⟩
    refine ⟨ld1 yb3 rfl, ?_⟩
    refine ⟨ld1 xb3 rfl, ?_⟩
    refine ⟨(by simp only [wd0, wd1, wd2, wd3, wm1, wm2, wm3, fX0, fX1, fX2, fX3, fX4, fX5, fXm, fY0, fY1, fY2, fY3, fY4, fZ0, wb]; simp <;> omega), ?_⟩
    refine ⟨rfl, ?_⟩
    refine ⟨ld1 yb3 rfl, ?_⟩
    refine ⟨ld1 xb3 rfl, ?_⟩
    refine ⟨(by simp only [wd0, wd1, wd2, wd3, wm1, wm2, wm3, fX0, fX1, fX2, fX3, fX4, fX5, fXm, fY0, fY1, fY2, fY3, fY4, fZ0, wb]; simp <;> omega), ?_⟩
    refine ⟨rfl, ?_⟩
    refine ⟨ld1 yb3 rfl, ?_⟩
    refine ⟨ld1 xb3 rfl, ?_⟩
    refine ⟨(by simp only [wd0, wd1, wd2, wd3, wm1, wm2, wm3, fX0, fX1, fX2, fX3, fX4, fX5, fXm, fY0, fY1, fY2, fY3, fY4, fZ0, wb]; simp <;> omega), ?_⟩
    refine ⟨rfl, ?_⟩
    refine ⟨ld1 yb3 rfl, ?_⟩
    refine ⟨ld1 xb3 rfl, ?_⟩
    refine ⟨(by simp only [wd0, wd1, wd2, wd3, wm1, wm2, wm3, fX0, fX1, fX2, fX3, fX4, fX5, fXm, fY0, fY1, fY2, fY3, fY4, fZ0, wb]; simp <;> omega), ?_⟩
    refine ⟨rfl, ?_⟩
    refine ⟨ldn yb3 (by simp) rfl, ?_⟩
    refine ⟨rfl, ?_⟩
    refine ⟨ldn xb3 (by simp) rfl, ?_⟩
    refine ⟨rfl, ?_⟩
    refine ⟨(by simp only [wd0, wd1, wd2, wd3, wm1, wm2, wm3, fX0, fX1, fX2, fX3, fX4, fX5, fXm, fY0, fY1, fY2, fY3, fY4, fZ0, wb]; simp <;> omega), ?_⟩
    refine ⟨rfl, ?_⟩
    refine ⟨ldn yb3 (by simp) rfl, ?_⟩
    refine ⟨rfl, ?_⟩
    refine ⟨ldn xb3 (by simp) rfl, ?_⟩
    refine ⟨rfl, ?_⟩
    refine ⟨(by simp only [wd0, wd1, wd2, wd3, wm1, wm2, wm3, fX0, fX1, fX2, fX3, fX4, fX5, fXm, fY0, fY1, fY2, fY3, fY4, fZ0, wb]; simp <;> omega), ?_⟩
    refine ⟨rfl, ?_⟩
    refine ⟨ldn yb3 (by simp) rfl, ?_⟩
    refine ⟨rfl, ?_⟩
    refine ⟨ldn xb3 (by simp) rfl, ?_⟩
    refine ⟨rfl, ?_⟩
    refine ⟨(by simp only [wd0, wd1, wd2, wd3, wm1, wm2, wm3, fX0, fX1, fX2, fX3, fX4, fX5, fXm, fY0, fY1, fY2, fY3, fY4, fZ0, wb]; simp <;> omega), ?_⟩
    refine ⟨rfl, ?_⟩
    refine ⟨ldn yb3 (by simp) rfl, ?_⟩
    refine ⟨rfl, ?_⟩
    refine ⟨ldn xb3 (by simp) rfl, ?_⟩
    refine ⟨rfl, ?_⟩
    refine ⟨(by simp only [wd0, wd1, wd2, wd3, wm1, wm2, wm3, fX0, fX1, fX2, fX3, fX4, fX5, fXm, fY0, fY1, fY2, fY3, fY4, fZ0, wb]; simp <;> omega), ?_⟩
    refine ⟨rfl, ?_⟩
    refine ⟨ldn yb3 (by simp) rfl, ?_⟩
    refine ⟨rfl, ?_⟩
    refine ⟨ldn xb3 (by simp) rfl, ?_⟩
    refine ⟨rfl, ?_⟩
    refine ⟨(by simp only [wd0, wd1, wd2, wd3, wm1, wm2, wm3, fX0, fX1, fX2, fX3, fX4, fX5, fXm, fY0, fY1, fY2, fY3, fY4, fZ0, wb]; simp <;> omega), ?_⟩
    refine ⟨rfl, ?_⟩
    refine ⟨ldn yb3 (by simp) rfl, ?_⟩
    refine ⟨rfl, ?_⟩
    refine ⟨ldn xb3 (by simp) rfl, ?_⟩
    refine ⟨rfl, ?_⟩
    refine ⟨(by simp only [wd0, wd1, wd2, wd3, wm1, wm2, wm3, fX0, fX1, fX2, fX3, fX4, fX5, fXm, fY0, fY1, fY2, fY3, fY4, fZ0, wb]; simp <;> omega), ?_⟩
    refine ⟨at5 hkl _ _, ?_⟩
    refine ⟨e1 _, ?_⟩
    refine ⟨rfl, ?_⟩
    refine ⟨ez, ?_⟩
    refine ⟨rfl, ?_⟩
    refine ⟨ldn xb1 (by simp) rfl, ?_⟩
    refine ⟨rfl, ?_⟩
    refine ⟨at5 hkl _ _, ?_⟩
    refine ⟨ld1 lb1 gb, ?_⟩
    refine ⟨(by simp only [wd0, wd1, wd2, wd3, wm1, wm2, wm3, fX0, fX1, fX2, fX3, fX4, fX5, fXm, fY0, fY1, fY2, fY3, fY4, fZ0, wb]; simp <;> omega), ?_⟩
    refine ⟨rfl, ?_⟩
    refine ⟨ldn xb1 (by simp) rfl, ?_⟩
    refine ⟨rfl, ?_⟩
    refine ⟨ldn xb1 (by simp) rfl, ?_⟩
    refine ⟨rfl, ?_⟩
    refine ⟨(by simp only [wd0, wd1, wd2, wd3, wm1, wm2, wm3, fX0, fX1, fX2, fX3, fX4, fX5, fXm, fY0, fY1, fY2, fY3, fY4, fZ0, wb]; simp <;> omega), ?_⟩
    refine ⟨rfl, ?_⟩
    refine ⟨ldn xb1 (by simp) rfl, ?_⟩
    refine ⟨rfl, ?_⟩
    refine ⟨ldn xb1 (by simp) rfl, ?_⟩
    refine ⟨rfl, ?_⟩
    refine ⟨(by simp only [wd0, wd1, wd2, wd3, wm1, wm2, wm3, fX0, fX1, fX2, fX3, fX4, fX5, fXm, fY0, fY1, fY2, fY3, fY4, fZ0, wb]; simp <;> omega), ?_⟩
    refine ⟨rfl, ?_⟩
    refine ⟨ldn xb1 (by simp) rfl, ?_⟩
    refine ⟨rfl, ?_⟩
    refine ⟨ldn xb1 (by simp) rfl, ?_⟩
    refine ⟨rfl, ?_⟩
    refine ⟨(by simp only [wd0, wd1, wd2, wd3, wm1, wm2, wm3, fX0, fX1, fX2, fX3, fX4, fX5, fXm, fY0, fY1, fY2, fY3, fY4, fZ0, wb]; simp <;> omega), ?_⟩
    refine ⟨rfl, ?_⟩
    refine ⟨ldn xb1 (by simp) rfl, ?_⟩
    refine ⟨rfl, ?_⟩
    refine ⟨ldn xb1 (by simp) rfl, ?_⟩
    refine ⟨rfl, ?_⟩
    refine ⟨(by simp only [wd0, wd1, wd2, wd3, wm1, wm2, wm3, fX0, fX1, fX2, fX3, fX4, fX5, fXm, fY0, fY1, fY2, fY3, fY4, fZ0, wb]; simp <;> omega), ?_⟩
    refine ⟨rfl, ?_⟩
    refine ⟨ldn xb1 (by simp) rfl, ?_⟩
    refine ⟨rfl, ?_⟩
    refine ⟨ldn xb1 (by simp) rfl, ?_⟩
    refine ⟨rfl, ?_⟩
    refine ⟨(by simp only [wd0, wd1, wd2, wd3, wm1, wm2, wm3, fX0, fX1, fX2, fX3, fX4, fX5, fXm, fY0, fY1, fY2, fY3, fY4, fZ0, wb]; simp <;> omega), ?_⟩
    refine ⟨rfl, ?_⟩
    refine ⟨ldn xb1 (by simp) rfl, ?_⟩
    refine ⟨rfl, ?_⟩
    refine ⟨ldn xb1 (by simp) rfl, ?_⟩
    refine ⟨rfl, ?_⟩
    refine ⟨(by simp only [wd0, wd1, wd2, wd3, wm1, wm2, wm3, fX0, fX1, fX2, fX3, fX4, fX5, fXm, fY0, fY1, fY2, fY3, fY4, fZ0, wb]; simp <;> omega), ?_⟩
    refine ⟨ldn xb1 (by simp) rfl, ?_⟩
    refine ⟨rfl, ?_⟩
    refine ⟨(by simp only [wd0, wd1, wd2, wd3, wm1, wm2, wm3, fX0, fX1, fX2, fX3, fX4, fX5, fXm, fY0, fY1, fY2, fY3, fY4, fZ0, wb]; simp <;> omega), ?_⟩
    refine ⟨rfl, ?_⟩
    exact outP_pk ⟨.inr rfl, _, rfl, rfl⟩
  have hs1 : ¬ j2 = j1 := fun q => hs (.inl q)
  have hs2 : ¬ x.b = 0 := fun q => hs (.inr q)
  have h5 : (j1 = 0 ∧ j2 = 1) ∨ (j1 = 1 ∧ j2 = 2) ∨ (j1 = 2 ∧ j2 = 3) := by omega
  rcases h5 with ⟨hj1, hj2⟩ | h5
  · skip
    have t0 : Y.p = X.p - x.b := by rw [Y0, X0, hj1, hj2]; simp <;> omega
    have t1 : Y.q = X.q + x.b := by rw [Y1, X1, hj1, hj2]; simp <;> omega
    have t2 : Y.r = X.r := by rw [Y2, X2, hj1, hj2]; simp <;> omega
    have t3 : Y.s = X.s := by rw [Y3, X3, hj1, hj2]; simp <;> omega
    have tz : Z.p + Z.q + Z.r + Z.s = X.p + X.q + X.r + X.s - x.b := by
      have h4 : j1 = 0 ∨ j1 = 1 ∨ j1 = 2 ∨ j1 = 3 := by omega
      rw [X0, X1, X2, X3, Z0, Z1, Z2, Z3]
      rcases h4 with h4 | h4 | h4 | h4 <;> rw [h4] <;> simp <;> omega
    clear p0 p1 q0 q1 r0 r1 s0' s1' u0 u1 v0 v1 w0 w1 z0' z1' xa1 xq1 xr1 xs1 ya0 ya1 yq0 yq1 yr0 yr1 ys0 ys1 zB okX hin hin' n0 hlen20 X0 X1 X2 X3 Y0 Y1 Y2 Y3 Z0 Z1 Z2 Z3 hk2 hk3 hB1 hB2 hBl hset e0 pr1 pr3 m0 m1 hpos hsl hs hs1 hj1 hj2
    refine Wp.piece 200 (hn10k1 s0 s1 (.slice (some ⟨Bl, 0, none⟩) ls.length ls.length) (.slice (some ⟨B, 0, none⟩) ls.length ls.length) a2 ls.length x.m x.b B Bl (k * 5) X.p X.q X.r X.s Y.p Y.q Y.r Y.s Z.p Z.q Z.r Z.s H H1 Hb Hc3 Hc1) ?_
    rw [tree10k1, wn1, hk, wm]
    subst hXb hYb
    refine ⟨w, ?_⟩
    refine ⟨ex0, ?_⟩
    refine ⟨st_ (rd_last rfl) (by intro q; cases q) rfl rfl (by simp) rfl (set_last rfl), ?_⟩
    refine ⟨hlen _ _, ?_⟩
    refine ⟨(by simp; omega), ?_⟩
    refine ⟨hlen _ _, ?_⟩
    refine ⟨hpre, ?_⟩
    refine ⟨eapp, ?_⟩
    refine ⟨at5 hkl _ _, ?_⟩
    refine ⟨ld1 cp.r gm, ?_⟩
    refine ⟨at5 hkl _ _, ?_⟩
    refine ⟨e3 _, ?_⟩
    refine ⟨ey, ?_⟩
    refine ⟨st_ (rd_last rfl) (by intro q; cases q) rfl rfl (by simp) rfl (set_last rfl), ?_⟩
    refine ⟨rfl, ?_⟩
    refine ⟨ld1 yb3 rfl, ?_⟩
    refine ⟨ld1 xb3 rfl, ?_⟩
    refine ⟨(by simp only [wd0, wd1, wd2, wd3, wm1, wm2, wm3, fX0, fX1, fX2, fX3, fX4, fX5, fXm, fY0, fY1, fY2, fY3, fY4, fZ0, wb]; simp <;> omega), ?_⟩
    refine ⟨rfl, ?_⟩
    refine ⟨ld1 yb3 rfl, ?_⟩
    refine ⟨ld1 xb3 rfl, ?_⟩
    refine ⟨(by simp only [wd0, wd1, wd2, wd3, wm1, wm2, wm3, fX0, fX1, fX2, fX3, fX4, fX5, fXm, fY0, fY1, fY2, fY3, fY4, fZ0, wb]; simp <;> omega), ?_⟩
    refine ⟨rfl, ?_⟩
    refine ⟨ld1 yb3 rfl, ?_⟩
    refine ⟨ld1 xb3 rfl, ?_⟩
    refine ⟨(by simp only [wd0, wd1, wd2, wd3, wm1, wm2, wm3, fX0, fX1, fX2, fX3, fX4, fX5, fXm, fY0, fY1, fY2, fY3, fY4, fZ0, wb]; simp <;> omega), ?_⟩
    refine ⟨rfl, ?_⟩
    refine ⟨ld1 yb3 rfl, ?_⟩
    refine ⟨ld1 xb3 rfl, ?_⟩
    refine ⟨(by simp only [wd0, wd1, wd2, wd3, wm1, wm2, wm3, fX0, fX1, fX2, fX3, fX4, fX5, fXm, fY0, fY1, fY2, fY3, fY4, fZ0, wb]; simp <;> omega), ?_⟩
    refine ⟨rfl, ?_⟩
    refine ⟨ldn yb3 (by simp) rfl, ?_⟩
    refine ⟨rfl, ?_⟩
    refine ⟨ldn xb3 (by simp) rfl, ?_⟩
    refine ⟨rfl, ?_⟩
    refine ⟨(by simp only [wd0, wd1, wd2, wd3, wm1, wm2, wm3, fX0, fX1, fX2, fX3, fX4, fX5, fXm, fY0, fY1, fY2, fY3, fY4, fZ0, wb]; simp <;> omega), ?_⟩
    refine ⟨(by simp only [wd0, wd1, wd2, wd3, wm1, wm2, wm3, fX0, fX1, fX2, fX3, fX4, fX5, fXm, fY0, fY1, fY2, fY3, fY4, fZ0, wb]; simp <;> omega), ?_⟩
    refine ⟨at5 hkl _ _, ?_⟩
    refine ⟨ld1 c3'.r gb3, ?_⟩
    refine ⟨(by simp only [wd0, wd1, wd2, wd3, wm1, wm2, wm3, fX0, fX1, fX2, fX3, fX4, fX5, fXm, fY0, fY1, fY2, fY3, fY4, fZ0, wb]; simp <;> omega), ?_⟩
    refine ⟨rfl, ?_⟩
    refine ⟨ldn yb3 (by simp) rfl, ?_⟩
    refine ⟨rfl, ?_⟩
    refine ⟨ldn xb3 (by simp) rfl, ?_⟩
    refine ⟨rfl, ?_⟩
    refine ⟨(by simp only [wd0, wd1, wd2, wd3, wm1, wm2, wm3, fX0, fX1, fX2, fX3, fX4, fX5, fXm, fY0, fY1, fY2, fY3, fY4, fZ0, wb]; simp <;> omega), ?_⟩
    refine ⟨rfl, ?_⟩
    refine ⟨ldn yb3 (by simp) rfl, ?_⟩
    refine ⟨rfl, ?_⟩
    refine ⟨ldn xb3 (by simp) rfl, ?_⟩
    refine ⟨rfl, ?_⟩
    refine ⟨(by simp only [wd0, wd1, wd2, wd3, wm1, wm2, wm3, fX0, fX1, fX2, fX3, fX4, fX5, fXm, fY0, fY1, fY2, fY3, fY4, fZ0, wb]; simp <;> omega), ?_⟩
    refine ⟨rfl, ?_⟩
    refine ⟨ldn yb3 (by simp) rfl, ?_⟩
    refine ⟨rfl, ?_⟩
    refine ⟨ldn xb3 (by simp) rfl, ?_⟩
    refine ⟨rfl, ?_⟩
    refine ⟨(by simp only [wd0, wd1, wd2, wd3, wm1, wm2, wm3, fX0, fX1, fX2, fX3, fX4, fX5, fXm, fY0, fY1, fY2, fY3, fY4, fZ0, wb]; simp <;> omega), ?_⟩
    refine ⟨rfl, ?_⟩
    refine ⟨ldn yb3 (by simp) rfl, ?_⟩
    refine ⟨rfl, ?_⟩
    refine ⟨ldn xb3 (by simp) rfl, ?_⟩
    refine ⟨rfl, ?_⟩
    refine ⟨(by simp only [wd0, wd1, wd2, wd3, wm1, wm2, wm3, fX0, fX1, fX2, fX3, fX4, fX5, fXm, fY0, fY1, fY2, fY3, fY4, fZ0, wb]; simp <;> omega), ?_⟩
    refine ⟨rfl, ?_⟩
    refine ⟨ldn yb3 (by simp) rfl, ?_⟩
    refine ⟨rfl, ?_⟩
    refine ⟨ldn xb3 (by simp) rfl, ?_⟩
    refine ⟨rfl, ?_⟩
    refine ⟨(by simp only [wd0, wd1, wd2, wd3, wm1, wm2, wm3, fX0, fX1, fX2, fX3, fX4, fX5, fXm, fY0, fY1, fY2, fY3, fY4, fZ0, wb]; simp <;> omega), ?_⟩
    refine ⟨at5 hkl _ _, ?_⟩
    refine ⟨e1 _, ?_⟩
    refine ⟨rfl, ?_⟩
    refine ⟨ez, ?_⟩
    refine ⟨rfl, ?_⟩
    refine ⟨ldn xb1 (by simp) rfl, ?_⟩
    refine ⟨rfl, ?_⟩
    refine ⟨at5 hkl _ _, ?_⟩
    refine ⟨ld1 lb1 gb, ?_⟩
    refine ⟨(by simp only [wd0, wd1, wd2, wd3, wm1, wm2, wm3, fX0, fX1, fX2, fX3, fX4, fX5, fXm, fY0, fY1, fY2, fY3, fY4, fZ0, wb]; simp <;> omega), ?_⟩
    refine ⟨rfl, ?_⟩
    refine ⟨ldn xb1 (by simp) rfl, ?_⟩
    refine ⟨rfl, ?_⟩
    refine ⟨ldn xb1 (by simp) rfl, ?_⟩
    refine ⟨rfl, ?_⟩
    refine ⟨(by simp only [wd0, wd1, wd2, wd3, wm1, wm2, wm3, fX0, fX1, fX2, fX3, fX4, fX5, fXm, fY0, fY1, fY2, fY3, fY4, fZ0, wb]; simp <;> omega), ?_⟩
    refine ⟨rfl, ?_⟩
    refine ⟨ldn xb1 (by simp) rfl, ?_⟩
    refine ⟨rfl, ?_⟩
    refine ⟨ldn xb1 (by simp) rfl, ?_⟩
    refine ⟨rfl, ?_⟩
    refine ⟨(by simp only [wd0, wd1, wd2, wd3, wm1, wm2, wm3, fX0, fX1, fX2, fX3, fX4, fX5, fXm, fY0, fY1, fY2, fY3, fY4, fZ0, wb]; simp <;> omega), ?_⟩
    refine ⟨rfl, ?_⟩
    refine ⟨ldn xb1 (by simp) rfl, ?_⟩
    refine ⟨rfl, ?_⟩
    refine ⟨ldn xb1 (by simp) rfl, ?_⟩
    refine ⟨rfl, ?_⟩
    refine ⟨(by simp only [wd0, wd1, wd2, wd3, wm1, wm2, wm3, fX0, fX1, fX2, fX3, fX4, fX5, fXm, fY0, fY1, fY2, fY3, fY4, fZ0, wb]; simp <;> omega), ?_⟩
    refine ⟨rfl, ?_⟩
    refine ⟨ldn xb1 (by simp) rfl, ?_⟩
    refine ⟨rfl, ?_⟩
    refine ⟨ldn xb1 (by simp) rfl, ?_⟩
    refine ⟨rfl, ?_⟩
    refine ⟨(by simp only [wd0, wd1, wd2, wd3, wm1, wm2, wm3, fX0, fX1, fX2, fX3, fX4, fX5, fXm, fY0, fY1, fY2, fY3, fY4, fZ0, wb]; simp <;> omega), ?_⟩
    refine ⟨rfl, ?_⟩
    refine ⟨ldn xb1 (by simp) rfl, ?_⟩
    refine ⟨rfl, ?_⟩
    refine ⟨ldn xb1 (by simp) rfl, ?_⟩
    refine ⟨rfl, ?_⟩
    refine ⟨(by simp only [wd0, wd1, wd2, wd3, wm1, wm2, wm3, fX0, fX1, fX2, fX3, fX4, fX5, fXm, fY0, fY1, fY2, fY3, fY4, fZ0, wb]; simp <;> omega), ?_⟩
    refine ⟨rfl, ?_⟩
    refine ⟨ldn xb1 (by simp) rfl, ?_⟩
    refine ⟨rfl, ?_⟩
    refine ⟨ldn xb1 (by simp) rfl, ?_⟩
    refine ⟨rfl, ?_⟩
    refine ⟨(by simp only [wd0, wd1, wd2, wd3, wm1, wm2, wm3, fX0, fX1, fX2, fX3, fX4, fX5, fXm, fY0, fY1, fY2, fY3, fY4, fZ0, wb]; simp <;> omega), ?_⟩
    refine ⟨ldn xb1 (by simp) rfl, ?_⟩
    refine ⟨rfl, ?_⟩
    refine ⟨(by simp only [wd0, wd1, wd2, wd3, wm1, wm2, wm3, fX0, fX1, fX2, fX3, fX4, fX5, fXm, fY0, fY1, fY2, fY3, fY4, fZ0, wb]; simp <;> omega), ?_⟩
    refine ⟨rfl, ?_⟩
    exact outP_pk ⟨.inr rfl, _, rfl, rfl⟩
  rcases h5 with ⟨hj1, hj2⟩ | h5
  · skip
    have t0 : Y.p = X.p := by rw [Y0, X0, hj1, hj2]; simp <;> omega
    have t1 : Y.q = X.q - x.b := by rw [Y1, X1, hj1, hj2]; simp <;> omega
    have t2 : Y.r = X.r + x.b := by rw [Y2, X2, hj1, hj2]; simp <;> omega
    have t3 : Y.s = X.s := by rw [Y3, X3, hj1, hj2]; simp <;> omega
    have tz : Z.p + Z.q + Z.r + Z.s = X.p + X.q + X.r + X.s - x.b := by
      have h4 : j1 = 0 ∨ j1 = 1 ∨ j1 = 2 ∨ j1 = 3 := by omega
      rw [X0, X1, X2, X3, Z0, Z1, Z2, Z3]
      rcases h4 with h4 | h4 | h4 | h4 <;> rw [h4] <;> simp <;> omega
    clear p0 p1 q0 q1 r0 r1 s0' s1' u0 u1 v0 v1 w0 w1 z0' z1' xa1 xq1 xr1 xs1 ya0 ya1 yq0 yq1 yr0 yr1 ys0 ys1 zB okX hin hin' n0 hlen20 X0 X1 X2 X3 Y0 Y1 Y2 Y3 Z0 Z1 Z2 Z3 hk2 hk3 hB1 hB2 hBl hset e0 pr1 pr3 m0 m1 hpos hsl hs hs1 hj1 hj2
    refine Wp.piece 200 (hn10k2 s0 s1 (.slice (some ⟨Bl, 0, none⟩) ls.length ls.length) (.slice (some ⟨B, 0, none⟩) ls.length ls.length) a2 ls.length x.m x.b B Bl (k * 5) X.p X.q X.r X.s Y.p Y.q Y.r Y.s Z.p Z.q Z.r Z.s H H1 Hb Hc3 Hc1) ?_
    rw [tree10k2, wn1, hk, wm]
    subst hXb hYb
    refine ⟨w, ?_⟩
    refine ⟨ex0, ?_⟩
    refine ⟨st_ (rd_last rfl) (by intro q; cases q) rfl rfl (by simp) rfl (set_last rfl), ?_⟩
    refine ⟨hlen _ _, ?_⟩
    refine ⟨(by simp; omega), ?_⟩
    refine ⟨hlen _ _, ?_⟩
    refine ⟨hpre, ?_⟩
    refine ⟨eapp, ?_⟩
    refine ⟨at5 hkl _ _, ?_⟩
    refine ⟨ld1 cp.r gm, ?_⟩
    refine ⟨at5 hkl _ _, ?_⟩
    refine ⟨e3 _, ?_⟩
    refine ⟨ey, ?_⟩
    refine ⟨st_ (rd_last rfl) (by intro q; cases q) rfl rfl (by simp) rfl (set_last rfl), ?_⟩
    refine ⟨rfl, ?_⟩
    refine ⟨ld1 yb3 rfl, ?_⟩
    refine ⟨ld1 xb3 rfl, ?_⟩
    refine ⟨(by simp only [wd0, wd1, wd2, wd3, wm1, wm2, wm3, fX0, fX1, fX2, fX3, fX4, fX5, fXm, fY0, fY1, fY2, fY3, fY4, fZ0, wb]; simp <;> omega), ?_⟩
    refine ⟨rfl, ?_⟩
    refine ⟨ld1 yb3 rfl, ?_⟩
    refine ⟨ld1 xb3 rfl, ?_⟩
    refine ⟨(by simp only [wd0, wd1, wd2, wd3, wm1, wm2, wm3, fX0, fX1, fX2, fX3, fX4, fX5, fXm, fY0, fY1, fY2, fY3, fY4, fZ0, wb]; simp <;> omega), ?_⟩
    refine ⟨rfl, ?_⟩
    refine ⟨ld1 yb3 rfl, ?_⟩
    refine ⟨ld1 xb3 rfl, ?_⟩
    refine ⟨(by simp only [wd0, wd1, wd2, wd3, wm1, wm2, wm3, fX0, fX1, fX2, fX3, fX4, fX5, fXm, fY0, fY1, fY2, fY3, fY4, fZ0, wb]; simp <;> omega), ?_⟩
    refine ⟨rfl, ?_⟩
    refine ⟨ld1 yb3 rfl, ?_⟩
    refine ⟨ld1 xb3 rfl, ?_⟩
    refine ⟨(by simp only [wd0, wd1, wd2, wd3, wm1, wm2, wm3, fX0, fX1, fX2, fX3, fX4, fX5, fXm, fY0, fY1, fY2, fY3, fY4, fZ0, wb]; simp <;> omega), ?_⟩
    refine ⟨rfl, ?_⟩
    refine ⟨ldn yb3 (by simp) rfl, ?_⟩
    refine ⟨rfl, ?_⟩
    refine ⟨ldn xb3 (by simp) rfl, ?_⟩
    refine ⟨rfl, ?_⟩
    refine ⟨(by simp only [wd0, wd1, wd2, wd3, wm1, wm2, wm3, fX0, fX1, fX2, fX3, fX4, fX5, fXm, fY0, fY1, fY2, fY3, fY4, fZ0, wb]; simp <;> omega), ?_⟩
    refine ⟨(by simp only [wd0, wd1, wd2, wd3, wm1, wm2, wm3, fX0, fX1, fX2, fX3, fX4, fX5, fXm, fY0, fY1, fY2, fY3, fY4, fZ0, wb]; simp <;> omega), ?_⟩
    refine ⟨at5 hkl _ _, ?_⟩
    refine ⟨ld1 c3'.r gb3, ?_⟩
    refine ⟨(by simp only [wd0, wd1, wd2, wd3, wm1, wm2, wm3, fX0, fX1, fX2, fX3, fX4, fX5, fXm, fY0, fY1, fY2, fY3, fY4, fZ0, wb]; simp <;> omega), ?_⟩
    refine ⟨rfl, ?_⟩
    refine ⟨ldn yb3 (by simp) rfl, ?_⟩
    refine ⟨rfl, ?_⟩
    refine ⟨ldn xb3 (by simp) rfl, ?_⟩
    refine ⟨rfl, ?_⟩
    refine ⟨(by simp only [wd0, wd1, wd2, wd3, wm1, wm2, wm3, fX0, fX1, fX2, fX3, fX4, fX5, fXm, fY0, fY1, fY2, fY3, fY4, fZ0, wb]; simp <;> omega), ?_⟩
    refine ⟨rfl, ?_⟩
    refine ⟨ldn yb3 (by simp) rfl, ?_⟩
    refine ⟨rfl, ?_⟩
    refine ⟨ldn xb3 (by simp) rfl, ?_⟩
    refine ⟨rfl, ?_⟩
    refine ⟨(by simp only [wd0, wd1, wd2, wd3, wm1, wm2, wm3, fX0, fX1, fX2, fX3, fX4, fX5, fXm, fY0, fY1, fY2, fY3, fY4, fZ0, wb]; simp <;> omega), ?_⟩
    refine ⟨rfl, ?_⟩
    refine ⟨ldn yb3 (by simp) rfl, ?_⟩
    refine ⟨rfl, ?_⟩
    refine ⟨ldn xb3 (by simp) rfl, ?_⟩
    refine ⟨rfl, ?_⟩
    refine ⟨(by simp only [wd0, wd1, wd2, wd3, wm1, wm2, wm3, fX0, fX1, fX2, fX3, fX4, fX5, fXm, fY0, fY1, fY2, fY3, fY4, fZ0, wb]; simp <;> omega), ?_⟩
    refine ⟨rfl, ?_⟩
    refine ⟨ldn yb3 (by simp) rfl, ?_⟩
    refine ⟨rfl, ?_⟩
    refine ⟨ldn xb3 (by simp) rfl, ?_⟩
    refine ⟨rfl, ?_⟩
    refine ⟨(by simp only [wd0, wd1, wd2, wd3, wm1, wm2, wm3, fX0, fX1, fX2, fX3, fX4, fX5, fXm, fY0, fY1, fY2, fY3, fY4, fZ0, wb]; simp <;> omega), ?_⟩
    refine ⟨rfl, ?_⟩
    refine ⟨ldn yb3 (by simp) rfl, ?_⟩
    refine ⟨rfl, ?_⟩
    refine ⟨ldn xb3 (by simp) rfl, ?_⟩
    refine ⟨rfl, ?_⟩
    refine ⟨(by simp only [wd0, wd1, wd2, wd3, wm1, wm2, wm3, fX0, fX1, fX2, fX3, fX4, fX5, fXm, fY0, fY1, fY2, fY3, fY4, fZ0, wb]; simp <;> omega), ?_⟩
    refine ⟨at5 hkl _ _, ?_⟩
    refine ⟨e1 _, ?_⟩
    refine ⟨rfl, ?_⟩
    refine ⟨ez, ?_⟩
    refine ⟨rfl, ?_⟩
    refine ⟨ldn xb1 (by simp) rfl, ?_⟩
    refine ⟨rfl, ?_⟩
    refine ⟨at5 hkl _ _, ?_⟩
    refine ⟨ld1 lb1 gb, ?_⟩
    refine ⟨(by simp only [wd0, wd1, wd2, wd3, wm1, wm2, wm3, fX0, fX1, fX2, fX3, fX4, fX5, fXm, fY0, fY1, fY2, fY3, fY4, fZ0, wb]; simp <;> omega), ?_⟩
    refine ⟨rfl, ?_⟩
    refine ⟨ldn xb1 (by simp) rfl, ?_⟩
    refine ⟨rfl, ?_⟩
    refine ⟨ldn xb1 (by simp) rfl, ?_⟩
    refine ⟨rfl, ?_⟩
    refine ⟨(by simp only [wd0, wd1, wd2, wd3, wm1, wm2, wm3, fX0, fX1, fX2, fX3, fX4, fX5, fXm, fY0, fY1, fY2, fY3, fY4, fZ0, wb]; simp <;> omega), ?_⟩
    refine ⟨rfl, ?_⟩
    refine ⟨ldn xb1 (by simp) rfl, ?_⟩
    refine ⟨rfl, ?_⟩
    refine ⟨ldn xb1 (by simp) rfl, ?_⟩
    refine ⟨rfl, ?_⟩
    refine ⟨(by simp only [wd0, wd1, wd2, wd3, wm1, wm2, wm3, fX0, fX1, fX2, fX3, fX4, fX5, fXm, fY0, fY1, fY2, fY3, fY4, fZ0, wb]; simp <;> omega), ?_⟩
    refine ⟨rfl, ?_⟩
    refine ⟨ldn xb1 (by simp) rfl, ?_⟩
    refine ⟨rfl, ?_⟩
    refine ⟨ldn xb1 (by simp) rfl, ?_⟩
    refine ⟨rfl, ?_⟩
    refine ⟨(by simp only [wd0, wd1, wd2, wd3, wm1, wm2, wm3, fX0, fX1, fX2, fX3, fX4, fX5, fXm, fY0, fY1, fY2, fY3, fY4, fZ0, wb]; simp <;> omega), ?_⟩
    refine ⟨rfl, ?_⟩
    refine ⟨ldn xb1 (by simp) rfl, ?_⟩
    refine ⟨rfl, ?_⟩
    refine ⟨ldn xb1 (by simp) rfl, ?_⟩
    refine ⟨rfl, ?_⟩
    refine ⟨(by simp only [wd0, wd1, wd2, wd3, wm1, wm2, wm3, fX0, fX1, fX2, fX3, fX4, fX5, fXm, fY0, fY1, fY2, fY3, fY4, fZ0, wb]; simp <;> omega), ?_⟩
    refine ⟨rfl, ?_⟩
    refine ⟨ldn xb1 (by simp) rfl, ?_⟩
    refine ⟨rfl, ?_⟩
    refine ⟨ldn xb1 (by simp) rfl, ?_⟩
    refine ⟨rfl, ?_⟩
    refine ⟨(by simp only [wd0, wd1, wd2, wd3, wm1, wm2, wm3, fX0, fX1, fX2, fX3, fX4, fX5, fXm, fY0, fY1, fY2, fY3, fY4, fZ0, wb]; simp <;> omega), ?_⟩
    refine ⟨rfl, ?_⟩
    refine ⟨ldn xb1 (by simp) rfl, ?_⟩
    refine ⟨rfl, ?_⟩
    refine ⟨ldn xb1 (by simp) rfl, ?_⟩
    refine ⟨rfl, ?_⟩
    refine ⟨(by simp only [wd0, wd1, wd2, wd3, wm1, wm2, wm3, fX0, fX1, fX2, fX3, fX4, fX5, fXm, fY0, fY1, fY2, fY3, fY4, fZ0, wb]; simp <;> omega), ?_⟩
    refine ⟨ldn xb1 (by simp) rfl, ?_⟩
    refine ⟨rfl, ?_⟩
    refine ⟨(by simp only [wd0, wd1, wd2, wd3, wm1, wm2, wm3, fX0, fX1, fX2, fX3, fX4, fX5, fXm, fY0, fY1, fY2, fY3, fY4, fZ0, wb]; simp <;> omega), ?_⟩
    refine ⟨rfl, ?_⟩
    exact outP_pk ⟨.inr rfl, _, rfl, rfl⟩
  obtain ⟨hj1, hj2⟩ := h5
  · skip
    have t0 : Y.p = X.p := by rw [Y0, X0, hj1, hj2]; simp <;> omega
    have t1 : Y.q = X.q := by rw [Y1, X1, hj1, hj2]; simp <;> omega
    have t2 : Y.r = X.r - x.b := by rw [Y2, X2, hj1, hj2]; simp <;> omega
    have t3 : Y.s = X.s + x.b := by rw [Y3, X3, hj1, hj2]; simp <;> omega
    have tz : Z.p + Z.q + Z.r + Z.s = X.p + X.q + X.r + X.s - x.b := by
      have h4 : j1 = 0 ∨ j1 = 1 ∨ j1 = 2 ∨ j1 = 3 := by omega
      rw [X0, X1, X2, X3, Z0, Z1, Z2, Z3]
      rcases h4 with h4 | h4 | h4 | h4 <;> rw [h4] <;> simp <;> omega
    clear p0 p1 q0 q1 r0 r1 s0' s1' u0 u1 v0 v1 w0 w1 z0' z1' xa1 xq1 xr1 xs1 ya0 ya1 yq0 yq1 yr0 yr1 ys0 ys1 zB okX hin hin' n0 hlen20 X0 X1 X2 X3 Y0 Y1 Y2 Y3 Z0 Z1 Z2 Z3 hk2 hk3 hB1 hB2 hBl hset e0 pr1 pr3 m0 m1 hpos hsl hs hs1 hj1 hj2
    refine Wp.piece 200 (hn10k3 s0 s1 (.slice (some ⟨Bl, 0, none⟩) ls.length ls.length) (.slice (some ⟨B, 0, none⟩) ls.length ls.length) a2 ls.length x.m x.b B Bl (k * 5) X.p X.q X.r X.s Y.p Y.q Y.r Y.s Z.p Z.q Z.r Z.s H H1 Hb Hc3 Hc1) ?_
    rw [tree10k3, wn1, hk, wm]
    subst hXb hYb
    refine ⟨w, ?_⟩
    refine ⟨ex0, ?_⟩
    refine ⟨st_ (rd_last rfl) (by intro q; cases q) rfl rfl (by simp) rfl (set_last rfl), ?_⟩
    refine ⟨hlen _ _, ?_⟩
    refine ⟨(by simp; omega), ?_⟩
    refine ⟨hlen _ _, ?_⟩
    refine ⟨hpre, ?_⟩
    refine ⟨eapp, ?_⟩
    refine ⟨at5 hkl _ _, ?_⟩
    refine ⟨ld1 cp.r gm, ?_⟩
    refine ⟨at5 hkl _ _, ?_⟩
    refine ⟨e3 _, ?_⟩
    refine ⟨ey, ?_⟩
    refine ⟨st_ (rd_last rfl) (by intro q; cases q) rfl rfl (by simp) rfl (set_last rfl), ?_⟩
    refine ⟨rfl, ?_⟩
    refine ⟨ld1 yb3 rfl, ?_⟩
    refine ⟨ld1 xb3 rfl, ?_⟩
    refine ⟨(by simp only [wd0, wd1, wd2, wd3, wm1, wm2, wm3, fX0, fX1, fX2, fX3, fX4, fX5, fXm, fY0, fY1, fY2, fY3, fY4, fZ0, wb]; simp <;> omega), ?_⟩
    refine ⟨rfl, ?_⟩
    refine ⟨ld1 yb3 rfl, ?_⟩
    refine ⟨ld1 xb3 rfl, ?_⟩
    refine ⟨(by simp only [wd0, wd1, wd2, wd3, wm1, wm2, wm3, fX0, fX1, fX2, fX3, fX4, fX5, fXm, fY0, fY1, fY2, fY3, fY4, fZ0, wb]; simp <;> omega), ?_⟩
    refine ⟨rfl, ?_⟩
    refine ⟨ld1 yb3 rfl, ?_⟩
    refine ⟨ld1 xb3 rfl, ?_⟩
    refine ⟨(by simp only [wd0, wd1, wd2, wd3, wm1, wm2, wm3, fX0, fX1, fX2, fX3, fX4, fX5, fXm, fY0, fY1, fY2, fY3, fY4, fZ0, wb]; simp <;> omega), ?_⟩
    refine ⟨rfl, ?_⟩
    refine ⟨ld1 yb3 rfl, ?_⟩
    refine ⟨ld1 xb3 rfl, ?_⟩
    refine ⟨(by simp only [wd0, wd1, wd2, wd3, wm1, wm2, wm3, fX0, fX1, fX2, fX3, fX4, fX5, fXm, fY0, fY1, fY2, fY3, fY4, fZ0, wb]; simp <;> omega), ?_⟩
    refine ⟨rfl, ?_⟩
    refine ⟨ldn yb3 (by simp) rfl, ?_⟩
    refine ⟨rfl, ?_⟩
    refine ⟨ldn xb3 (by simp) rfl, ?_⟩
    refine ⟨rfl, ?_⟩
    refine ⟨(by simp only [wd0, wd1, wd2, wd3, wm1, wm2, wm3, fX0, fX1, fX2, fX3, fX4, fX5, fXm, fY0, fY1, fY2, fY3, fY4, fZ0, wb]; simp <;> omega), ?_⟩
    refine ⟨(by simp only [wd0, wd1, wd2, wd3, wm1, wm2, wm3, fX0, fX1, fX2, fX3, fX4, fX5, fXm, fY0, fY1, fY2, fY3, fY4, fZ0, wb]; simp <;> omega), ?_⟩
    refine ⟨at5 hkl _ _, ?_⟩
    refine ⟨ld1 c3'.r gb3, ?_⟩
    refine ⟨(by simp only [wd0, wd1, wd2, wd3, wm1, wm2, wm3, fX0, fX1, fX2, fX3, fX4, fX5, fXm, fY0, fY1, fY2, fY3, fY4, fZ0, wb]; simp <;> omega), ?_⟩
    refine ⟨rfl, ?_⟩
    refine ⟨ldn yb3 (by simp) rfl, ?_⟩
    refine ⟨rfl, ?_⟩
    refine ⟨ldn xb3 (by simp) rfl, ?_⟩
    refine ⟨rfl, ?_⟩
    refine ⟨(by simp only [wd0, wd1, wd2, wd3, wm1, wm2, wm3, fX0, fX1, fX2, fX3, fX4, fX5, fXm, fY0, fY1, fY2, fY3, fY4, fZ0, wb]; simp <;> omega), ?_⟩
    refine ⟨rfl, ?_⟩
    refine ⟨ldn yb3 (by simp) rfl, ?_⟩
    refine ⟨rfl, ?_⟩
    refine ⟨ldn xb3 (by simp) rfl, ?_⟩
    refine ⟨rfl, ?_⟩
    refine ⟨(by simp only [wd0, wd1, wd2, wd3, wm1, wm2, wm3, fX0, fX1, fX2, fX3, fX4, fX5, fXm, fY0, fY1, fY2, fY3, fY4, fZ0, wb]; simp <;> omega), ?_⟩
    refine ⟨rfl, ?_⟩
    refine ⟨ldn yb3 (by simp) rfl, ?_⟩
    refine ⟨rfl, ?_⟩
    refine ⟨ldn xb3 (by simp) rfl, ?_⟩
    refine ⟨rfl, ?_⟩
    refine ⟨(by simp only [wd0, wd1, wd2, wd3, wm1, wm2, wm3, fX0, fX1, fX2, fX3, fX4, fX5, fXm, fY0, fY1, fY2, fY3, fY4, fZ0, wb]; simp <;> omega), ?_⟩
    refine ⟨rfl, ?_⟩
    refine ⟨ldn yb3 (by simp) rfl, ?_⟩
    refine ⟨rfl, ?_⟩
    refine ⟨ldn xb3 (by simp) rfl, ?_⟩
    refine ⟨rfl, ?_⟩
    refine ⟨(by simp only [wd0, wd1, wd2, wd3, wm1, wm2, wm3, fX0, fX1, fX2, fX3, fX4, fX5, fXm, fY0, fY1, fY2, fY3, fY4, fZ0, wb]; simp <;> omega), ?_⟩
    refine ⟨rfl, ?_⟩
    refine ⟨ldn yb3 (by simp) rfl, ?_⟩
    refine ⟨rfl, ?_⟩
    refine ⟨ldn xb3 (by simp) rfl, ?_⟩
    refine ⟨rfl, ?_⟩
    refine ⟨(by simp only [wd0, wd1, wd2, wd3, wm1, wm2, wm3, fX0, fX1, fX2, fX3, fX4, fX5, fXm, fY0, fY1, fY2, fY3, fY4, fZ0, wb]; simp <;> omega), ?_⟩
    refine ⟨at5 hkl _ _, ?_⟩
    refine ⟨e1 _, ?_⟩
    refine ⟨rfl, ?_⟩
    refine ⟨ez, ?_⟩
    refine ⟨rfl, ?_⟩
    refine ⟨ldn xb1 (by simp) rfl, ?_⟩
    refine ⟨rfl, ?_⟩
    refine ⟨at5 hkl _ _, ?_⟩
    refine ⟨ld1 lb1 gb, ?_⟩
    refine ⟨(by simp only [wd0, wd1, wd2, wd3, wm1, wm2, wm3, fX0, fX1, fX2, fX3, fX4, fX5, fXm, fY0, fY1, fY2, fY3, fY4, fZ0, wb]; simp <;> omega), ?_⟩
    refine ⟨rfl, ?_⟩
    refine ⟨ldn xb1 (by simp) rfl, ?_⟩
    refine ⟨rfl, ?_⟩
    refine ⟨ldn xb1 (by simp) rfl, ?_⟩
    refine ⟨rfl, ?_⟩
    refine ⟨(by simp only [wd0, wd1, wd2, wd3, wm1, wm2, wm3, fX0, fX1, fX2, fX3, fX4, fX5, fXm, fY0, fY1, fY2, fY3, fY4, fZ0, wb]; simp <;> omega), ?_⟩
    refine ⟨rfl, ?_⟩
    refine ⟨ldn xb1 (by simp) rfl, ?_⟩
    refine ⟨rfl, ?_⟩
    refine ⟨ldn xb1 (by simp) rfl, ?_⟩
    refine ⟨rfl, ?_⟩
    refine ⟨(by simp only [wd0, wd1, wd2, wd3, wm1, wm2, wm3, fX0, fX1, fX2, fX3, fX4, fX5, fXm, fY0, fY1, fY2, fY3, fY4, fZ0, wb]; simp <;> omega), ?_⟩
    refine ⟨rfl, ?_⟩
    refine ⟨ldn xb1 (by simp) rfl, ?_⟩
    refine ⟨rfl, ?_⟩
    refine ⟨ldn xb1 (by simp) rfl, ?_⟩
    refine ⟨rfl, ?_⟩
    refine ⟨(by simp only [wd0, wd1, wd2, wd3, wm1, wm2, wm3, fX0, fX1, fX2, fX3, fX4, fX5, fXm, fY0, fY1, fY2, fY3, fY4, fZ0, wb]; simp <;> omega), ?_⟩
    refine ⟨rfl, ?_⟩
    refine ⟨ldn xb1 (by simp) rfl, ?_⟩
    refine ⟨rfl, ?_⟩
    refine ⟨ldn xb1 (by simp) rfl, ?_⟩
    refine ⟨rfl, ?_⟩
    refine ⟨(by simp only [wd0, wd1, wd2, wd3, wm1, wm2, wm3, fX0, fX1, fX2, fX3, fX4, fX5, fXm, fY0, fY1, fY2, fY3, fY4, fZ0, wb]; simp <;> omega), ?_⟩
    refine ⟨rfl, ?_⟩
    refine ⟨ldn xb1 (by simp) rfl, ?_⟩
    refine ⟨rfl, ?_⟩
    refine ⟨ldn xb1 (by simp) rfl, ?_⟩
    refine ⟨rfl, ?_⟩
    refine ⟨(by simp only [wd0, wd1, wd2, wd3, wm1, wm2, wm3, fX0, fX1, fX2, fX3, fX4, fX5, fXm, fY0, fY1, fY2, fY3, fY4, fZ0, wb]; simp <;> omega), ?_⟩
    refine ⟨rfl, ?_⟩
    refine ⟨ldn xb1 (by simp) rfl, ?_⟩
    refine ⟨rfl, ?_⟩
    refine ⟨ldn xb1 (by simp) rfl, ?_⟩
    refine ⟨rfl, ?_⟩
    refine ⟨(by simp only [wd0, wd1, wd2, wd3, wm1, wm2, wm3, fX0, fX1, fX2, fX3, fX4, fX5, fXm, fY0, fY1, fY2, fY3, fY4, fZ0, wb]; simp <;> omega), ?_⟩
    refine ⟨ldn xb1 (by simp) rfl, ?_⟩
    refine ⟨rfl, ?_⟩
    refine ⟨(by simp only [wd0, wd1, wd2, wd3, wm1, wm2, wm3, fX0, fX1, fX2, fX3, fX4, fX5, fXm, fY0, fY1, fY2, fY3, fY4, fZ0, wb]; simp <;> omega), ?_⟩
    refine ⟨rfl, ?_⟩
    exact outP_pk ⟨.inr rfl, _, rfl, rfl⟩
end Go.Proofs.Ytjnppjipoibbeaa.Buck
