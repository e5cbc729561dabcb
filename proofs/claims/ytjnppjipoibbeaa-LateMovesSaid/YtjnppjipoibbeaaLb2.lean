/-
  Loads, stores and lists at heaps that are not known whole.
-/
import Derived.Test.YtjnppjipoibbeaaAm25
import Derived.Test.YtjnppjipoibbeaaLb1
namespace Go.Am
set_option linter.all false

variable {Γ : Env}
theorem ld1 {h : Heap} {B o : Nat} {blk : Blk} {v : Value} (hr : rd h B = some blk) (hv : blk.cells[o]? = some v) : opA Γ (.load (.const (.pointer (some ⟨B, o, none⟩))) none) [] h = some (v, h) := by
  simp only [opA, pureA, ev, read1, hr, hv]
theorem ldn {h : Heap} {B o n : Nat} {blk : Blk} {l : List Value} (hr : rd h B = some blk) (hn : o + n ≤ blk.cells.length) (hl : (blk.cells.drop o).take n = l) : opA Γ (.load (.const (.pointer (some ⟨B, o, none⟩))) (some n)) [] h = some (.agg ⟨l⟩, h) := by
  simp only [opA, pureA, ev, readN, hr, hn, if_true, hl]
theorem st_ {h h' : Heap} {B o n : Nat} {blk : Blk} {v : Value} {l : List Value} (hr : rd h B = some blk) (hk : blk.kind ≠ .ro) (ht : noTup v = true) (hc : v.cells.toList.length = n) (hn : o + n ≤ blk.cells.length) (hl : setR blk.cells o v.cells.toList = l)
    (hh : h.set B (some ⟨blk.kind, l⟩) = h') : opA Γ (.store (.const (.pointer (some ⟨B, o, none⟩))) (.const v) n) [] h = some ((.tuple ⟨[]⟩), h') := by
  subst hc
  simp only [opA, ev, ht, true_and, if_true, writeN, hr, hk, if_false, hn, hl, hh]
  rfl
theorem rd_last {H : Heap} {b : Blk} {B : Nat} (hB : B = H.length) : rd (H ++ [some b]) B = some b := by
  subst hB; simp [rd]
theorem rd_old {H X : Heap} {B : Nat} {b : Blk} (e : rd H B = some b) : rd (H ++ X) B = some b := rd_more e
theorem rd_lt {H : Heap} {B : Nat} {b : Blk} (e : rd H B = some b) : B < H.length := (List.getElem?_eq_some_iff.1 (rd_some e)).1
theorem set_last {H : Heap} {x y : Option Blk} {B : Nat} (hB : B = H.length) : (H ++ [x]).set B y = H ++ [y] := by
  subst hB; simp [List.set_append]
theorem set_old {H X : Heap} {B : Nat} {y : Option Blk} (hB : B < H.length) : (H ++ X).set B y = H.set B y ++ X := by
  simp [List.set_append, hB]
theorem rd_set {H : Heap} {B : Nat} {b : Blk} (hB : B < H.length) : rd (H.set B (some b)) B = some b := by
  simp [rd, hB]
theorem rd_set_ne {H : Heap} {B C : Nat} {x : Option Blk} (hB : C ≠ B) : rd (H.set C x) B = rd H B := by
  simp [rd, List.getElem?_set_ne hB]
theorem take_app {H X : Heap} {n : Nat} {h : Heap} (e : H.take n = h) (hl : n ≤ H.length) : (H ++ X).take n = h := by
  rw [List.take_append_of_le_length hl, e]
theorem take_set {H : Heap} {n B : Nat} {x : Option Blk} {h : Heap} (e : H.take n = h) (hB : n ≤ B) : (H.set B x).take n = h := by
  rw [List.take_set_of_le hB, e]
theorem rd_take {H h : Heap} {B : Nat} {b : Blk} (e : H.take h.length = h) (hr : rd h B = some b) : rd H B = some b := by
  have hB := rd_some hr
  have hlt := (List.getElem?_eq_some_iff.1 hB).1
  have h2 : (H.take h.length)[B]? = some (some b) := by rw [e]; exact hB
  rw [List.getElem?_take, if_pos hlt] at h2
  simp [rd, h2]
theorem res_cell {t : Fr} {h : Heap} {a B n : Nat} {blk : Blk} (he : t.getD a undef = .pointer (some ⟨B, 0, none⟩)) (hr : rd h B = some blk) (hn : blk.cells.length = n) : resA t h [.cell a (some n)] = some (.agg ⟨blk.cells⟩) := by
  have e : ev t (.tmp a) = .pointer (some ⟨B, 0, none⟩) := he
  subst hn
  simp [resA, resAs, resA1, pureA, e, readN, hr]

/-- RowsAt of a list, somewhere in a block. -/
def RowsAt (w : Nat) (h : Heap) (v : Value) (rows : List (List Value)) : Prop :=
  (v = .slice none 0 0 ∧ rows = []) ∨ ∃ B o c blk, v = .slice (some ⟨B, o, none⟩) rows.length c ∧ rd h B = some blk ∧ (∀ i (r : List Value), rows[i]? = some r → o + i * w + w ≤ blk.cells.length ∧ (blk.cells.drop (o + i * w)).take w = r)
theorem RowsAt.more {w : Nat} {h H : Heap} {v : Value} {rows : List (List Value)} (r : RowsAt w h v rows) (k : ∀ B blk, rd h B = some blk → rd H B = some blk) : RowsAt w H v rows := by
  rcases r with r | ⟨B, o, c, blk, a, b, d⟩
  · exact .inl r
  · exact .inr ⟨B, o, c, blk, a, k B blk b, d⟩
theorem RowsAt.len {w : Nat} {h H : Heap} {v : Value} {rows : List (List Value)} (r : RowsAt w h v rows) : opA Γ (.len (.const v)) [] H = some ((.int .i64 rows.length), H) := by
  rcases r with ⟨rfl, rfl⟩ | ⟨B, o, c, blk, rfl, b, d⟩ <;> simp [opA, pureA, ev]
/-- A row of a list: where it lies, and what it is. -/
theorem RowsAt.at_ {w : Nat} {h : Heap} {v : Value} {rows : List (List Value)} (r : RowsAt w h v rows) {i : Nat} {row : List Value} (hi : rows[i]? = some row) :
    ∃ q, (∀ (Γ : Env) (H : Heap), opA Γ (.iadr w none (.const v) (.const (.int .i64 i))) [] H = some (q, H)) ∧
      (∀ (Γ : Env), opA Γ (.load (.const q) (some w)) [] h = some (.agg ⟨row⟩, h)) ∧ (∀ (Γ : Env) x, w = 1 → row = [x] → opA Γ (.load (.const q) none) [] h = some (x, h)) := by
  have hlt : i < rows.length := (List.getElem?_eq_some_iff.1 hi).1
  rcases r with ⟨rfl, rfl⟩ | ⟨B, o, c, blk, rfl, b, d⟩
  · simp at hi
  · obtain ⟨d1, d2⟩ := d i row hi
    refine ⟨.pointer (some ⟨B, o + i * w, none⟩), fun Γ H => ?_, fun Γ => ?_, fun Γ x hw hx => ?_⟩
    · have h1 : (0 : Int) ≤ i ∧ (i : Int) < (rows.length : Nat) := ⟨by omega, by omega⟩
      simp only [opA, pureA, ev, h1, and_self, if_true, Int.toNat_natCast]
    · exact ldn b (by omega) d2
    · refine ld1 b ?_
      subst hw hx
      have : ((blk.cells.drop (o + i * 1)).take 1)[0]? = some x := by rw [d2]; rfl
      rw [List.getElem?_take] at this
      simpa using this

theorem RowsAt.uniq {w : Nat} {h : Heap} {v : Value} {r1 r2 : List (List Value)} (a : RowsAt w h v r1) (b : RowsAt w h v r2) : r1 = r2 := by
  rcases a with ⟨rfl, rfl⟩ | ⟨B, o, c, blk, rfl, a1, a2⟩
  · rcases b with ⟨_, rfl⟩ | ⟨B, o, c, blk, e, _, _⟩
    · rfl
    · cases e
  · rcases b with ⟨e, _⟩ | ⟨B', o', c', blk', e, b1, b2⟩
    · cases e
    · simp only [Value.slice.injEq, Option.some.injEq, Addr.mk.injEq] at e
      obtain ⟨⟨rfl, rfl, _⟩, e2, rfl⟩ := e
      rw [a1] at b1; cases b1
      apply List.ext_getElem?
      intro i
      rcases Nat.lt_or_ge i r1.length with q | q
      · have x1 := List.getElem?_eq_getElem q
        have x2 := List.getElem?_eq_getElem (show i < r2.length by omega)
        rw [x1, x2, ← (a2 _ _ x1).2, ← (b2 _ _ x2).2]
      · rw [List.getElem?_eq_none q, List.getElem?_eq_none (by omega)]

/-- A summary out of a relation. -/
noncomputable def rel (Q : List Value → Heap → Value → Heap → Prop) : List Value → Heap → Option (Value × Heap) := fun args h =>
  open Classical in if H : ∃ r : Value × Heap, Q args h r.1 r.2 then some (Classical.choose H) else none
theorem rel_ok {P : Program} {f : FuncId} {Q : List Value → Heap → Value → Heap → Prop} (s : ∀ args h v h', Q args h v h' → Sim P f args h fun v1 h1 => v1 = v ∧ h1 = h') : Summ P f (rel Q) := fun args h v h' e => by
  unfold rel at e
  split at e
  · rename_i H
    have q := Classical.choose_spec H
    cases hc : Classical.choose H with
    | mk a b =>
      rw [hc] at e q
      cases e
      exact s _ _ _ _ q
  · cases e
theorem rel_some {Q : List Value → Heap → Value → Heap → Prop} {args : List Value} {h : Heap} {v : Value} {h' : Heap} (q : Q args h v h') (u : ∀ v1 h1, Q args h v1 h1 → v1 = v ∧ h1 = h') : rel Q args h = some (v, h') := by
  unfold rel
  have H : ∃ r : Value × Heap, Q args h r.1 r.2 := ⟨(v, h'), q⟩
  rw [dif_pos H]
  have q2 := u _ _ (Classical.choose_spec H)
  cases hc : Classical.choose H with
  | mk a b => rw [hc] at q2; obtain ⟨rfl, rfl⟩ := q2; rfl
theorem rel_of {Q : List Value → Heap → Value → Heap → Prop} {args : List Value} {h : Heap} {v : Value} {h' : Heap} (e : rel Q args h = some (v, h')) : Q args h v h' := by
  unfold rel at e
  split at e
  · rename_i H
    have q := Classical.choose_spec H
    cases hc : Classical.choose H with
    | mk a b => rw [hc] at e q; cases e; exact q
  · cases e

/-- A list of rows that a function grows, and nobody else has. -/
def LsOf (w : Nat) (n0 : Nat) (H : Heap) (l : Value) (rows : List (List Value)) : Prop :=
  (∀ r ∈ rows, r.length = w) ∧ ((rows = [] ∧ l = .slice none 0 0) ∨ ∃ B, l = .slice (some ⟨B, 0, none⟩) rows.length rows.length ∧ rows ≠ [] ∧ n0 ≤ B ∧ rd H B = some ⟨.grown w, rows.flatten⟩)
theorem flat_len {w : Nat} : ∀ {rows : List (List Value)}, (∀ r ∈ rows, r.length = w) → rows.flatten.length = rows.length * w
  | [], _ => by simp
  | r :: l, h => by
    have := flat_len (rows := l) fun x hx => h x (by simp [hx])
    simp only [List.flatten_cons, List.length_append, this, h r (by simp), List.length_cons, Nat.add_mul, Nat.one_mul]
    omega
theorem LsOf.more {w n0 : Nat} {H H' : Heap} {l : Value} {rows : List (List Value)} (a : LsOf w n0 H l rows) (k : ∀ B blk, rd H B = some blk → rd H' B = some blk) : LsOf w n0 H' l rows := by
  obtain ⟨a1, a2 | ⟨B, b1, b2, b3, b4⟩⟩ := a
  · exact ⟨a1, .inl a2⟩
  · exact ⟨a1, .inr ⟨B, b1, b2, b3, k _ _ b4⟩⟩
theorem LsOf.grow {w eby : Nat} {h0 H : Heap} {l : Value} {rows : List (List Value)} {row : List Value} (hl : LsOf w h0.length H l rows) (hw : row.length = w) (hp : 0 < w) (hb : (rows.length + 1) * eby ≤ 1099511627776) (hc : rows.length + 1 ≤ 1099511627776)
    (old : H.take h0.length = h0) (hle : h0.length ≤ H.length) : ∃ l2 H2, (∀ Γ, opA Γ (.append w eby (.const l) (.const (.slice (some ⟨H.length, 0, none⟩) 1 1))) [] (H ++ [some (Blk.mk .fix row)]) = some (l2, H2)) ∧
      LsOf w h0.length H2 l2 (rows ++ [row]) ∧ H2.take h0.length = h0 ∧ h0.length ≤ H2.length ∧ ∀ B blk, rd H B = some blk → (∀ e, blk.kind ≠ .grown e) → rd H2 B = some blk := by
  obtain ⟨hr, hl⟩ := hl
  have hr2 : ∀ r ∈ rows ++ [row], r.length = w := by
    intro r hm
    rcases List.mem_append.1 hm with q | q
    · exact hr r q
    · simp at q; rw [q]; exact hw
  have src : srcA (H ++ [some (Blk.mk .fix row)]) w (.slice (some ⟨H.length, 0, none⟩) 1 1) = some (1, row) := by
    simp only [srcA, readN, rd_last (H := H) (b := Blk.mk .fix row) rfl, Nat.zero_add, Nat.one_mul, List.drop_zero, ← hw, Nat.le_refl, if_true, List.take_length]
  rcases hl with ⟨rfl, rfl⟩ | ⟨B, rfl, hne, hB, hrd⟩
  · refine ⟨.slice (some ⟨(H ++ [some (Blk.mk .fix row)]).length, 0, none⟩) 1 1, (H ++ [some (Blk.mk .fix row)]) ++ [some ⟨.grown w, row⟩], fun Γ => ?_, ⟨hr2, .inr ⟨_, rfl, by simp, by simp; omega, rd_last rfl |>.trans (by simp)⟩⟩, take_app (take_app old hle) (by simp; omega), by simp; omega, fun B blk hB _ => rd_old (rd_old hB)⟩
    have h1 : (1 : Nat) * eby ≤ 1099511627776 := by simpa using hb
    simp only [opA, ev, appA, src]
    rw [if_neg (by decide)]
    simp only [hp, h1, true_and, if_true]
    rw [if_pos (by decide)]
  · have hfl := flat_len hr
    have lt := rd_lt hrd
    refine ⟨.slice (some ⟨(H ++ [some (Blk.mk .fix row)]).length, 0, none⟩) (rows.length + 1) (rows.length + 1), ((H ++ [some (Blk.mk .fix row)]).set B none) ++ [some ⟨.grown w, rows.flatten ++ row⟩], fun Γ => ?_, ⟨hr2, .inr ⟨(H ++ [some (Blk.mk .fix row)]).length, by simp, by simp, by simp; omega, (rd_last (by simp)).trans (by simp)⟩⟩, take_app (take_set (take_app old hle) hB) (by simp; omega), by simp; omega, fun B' blk hB' hk => rd_old ?_⟩
    · have hread : readN (H ++ [some (Blk.mk .fix row)]) ⟨B, 0, none⟩ (rows.length * w) = some rows.flatten := by
        simp only [readN, rd_old hrd, Nat.zero_add, hfl, Nat.le_refl, if_true, List.drop_zero]
        rw [← hfl, List.take_length]
      have hend : isEnd (H ++ [some (Blk.mk .fix row)]) w ⟨B, 0, none⟩ rows.length = some true := by
        simp only [isEnd, rd_old hrd, hp, and_self, if_true, Nat.zero_add, hfl, beq_self_eq_true]
      simp only [opA, ev, appA, src]
      rw [if_neg (by decide)]
      have hn : ¬ (rows.length + 1 ≤ rows.length) := by omega
      simp only [hn, if_false, hp, hb, hc, and_self, if_true, hread, hend]
    · have hne : B ≠ B' := fun q => by
        subst q
        rw [hrd] at hB'
        cases hB'
        exact hk w rfl
      rw [rd_set_ne hne]
      exact rd_old hB'
end Go.Am
