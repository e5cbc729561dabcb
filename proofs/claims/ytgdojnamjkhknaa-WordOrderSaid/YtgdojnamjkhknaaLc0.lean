/-
  Lists: read at an index; grown by append in a part of the heap that is a function's own.
-/
import Derived.Test.YtgdojnamjkhknaaLb2
import Derived.Test.YtgdojnamjkhknaaAm30
namespace Go.Am
set_option linter.all false

/-- A row of a list: where it lies, and how it is read. -/
structure RowAt (w : Nat) (h : Heap) (v : Value) (i : Int) (row : List Value) (b o : Nat) : Prop where
  ptr : ∀ (Γ : Env) (H : Heap), opA Γ (.iadr w none (.const v) (.const (.int .i64 i))) [] H = some (.pointer (some ⟨b, o, none⟩), H)
  all : ∀ (Γ : Env), opA Γ (.load (.const (.pointer (some ⟨b, o, none⟩))) (some w)) [] h = some (.agg ⟨row⟩, h)
  fld : ∀ (Γ : Env) (f : Nat) (x : Value), row[f]? = some x → opA Γ (.load (.const (.pointer (some ⟨b, o + f, none⟩))) none) [] h = some (x, h)
theorem RowAt.one {w : Nat} {h : Heap} {v : Value} {i : Int} {x : Value} {b o : Nat} (r : RowAt w h v i [x] b o) (Γ : Env) : opA Γ (.load (.const (.pointer (some ⟨b, o, none⟩))) none) [] h = some (x, h) := r.fld Γ 0 x rfl
theorem ldf {Γ : Env} {h : Heap} {B o : Nat} {v : Value} (e : ∃ blk, rd h B = some blk ∧ blk.cells[o]? = some v) : opA Γ (.load (.const (.pointer (some ⟨B, o, none⟩))) none) [] h = some (v, h) := by
  obtain ⟨blk, h1, h2⟩ := e
  exact ld1 h1 h2
theorem RowsAt.row {w : Nat} {h : Heap} {v : Value} {rows : List (List Value)} (r : RowsAt w h v rows) {i : Nat} {row : List Value} (hi : rows[i]? = some row) : ∃ b o, RowAt w h v i row b o := by
  have hlt : i < rows.length := (List.getElem?_eq_some_iff.1 hi).1
  rcases r with ⟨rfl, rfl⟩ | ⟨B, o, c, blk, rfl, b, d⟩
  · simp at hi
  · obtain ⟨d1, d2⟩ := d i row hi
    refine ⟨B, o + i * w, fun Γ H => ?_, fun Γ => ldn b (by omega) d2, fun Γ f x hx => ldf ?_⟩
    · have h1 : (0 : Int) ≤ i ∧ (i : Int) < (rows.length : Nat) := ⟨by omega, by omega⟩
      simp only [opA, pureA, ev, h1, and_self, if_true, Int.toNat_natCast]
    · have hfw : f < w := by
        have := (List.getElem?_eq_some_iff.1 hx).1
        rw [← d2, List.length_take] at this
        omega
      refine ⟨_, b, ?_⟩
      have := congrArg (fun l => l[f]?) d2
      simp only [List.getElem?_take, hfw, if_true, List.getElem?_drop, hx] at this
      exact this

/-- A list that may be cut: its room is known to be enough. -/
def RowsW (w : Nat) (h : Heap) (v : Value) (rows : List (List Value)) : Prop :=
  (v = .slice none 0 0 ∧ rows = []) ∨ ∃ B o c blk, v = .slice (some ⟨B, o, none⟩) rows.length c ∧ rows.length ≤ c ∧ rd h B = some blk ∧ (∀ e, blk.kind = .grown e → e = w ∧ 0 < w) ∧ o + rows.length * w ≤ blk.cells.length ∧ (∀ i (r : List Value), rows[i]? = some r → (blk.cells.drop (o + i * w)).take w = r)
theorem mul_le {i n w : Nat} (h : i < n) : i * w + w ≤ n * w := by
  have := Nat.mul_le_mul_right w (show i + 1 ≤ n by omega)
  rw [Nat.add_mul, Nat.one_mul] at this
  exact this
theorem RowsW.at_ {w : Nat} {h : Heap} {v : Value} {rows : List (List Value)} (r : RowsW w h v rows) : RowsAt w h v rows := by
  rcases r with r | ⟨B, o, c, blk, a1, _, a2, _, a3, a4⟩
  · exact .inl r
  · exact .inr ⟨B, o, c, blk, a1, a2, fun i r e => ⟨by have := mul_le (w := w) (List.getElem?_eq_some_iff.1 e).1; omega, a4 i r e⟩⟩
theorem RowsW.row {w : Nat} {h : Heap} {v : Value} {rows : List (List Value)} (r : RowsW w h v rows) {i : Nat} {row : List Value} (hi : rows[i]? = some row) : ∃ b o, RowAt w h v i row b o := r.at_.row hi
theorem RowsW.more {w : Nat} {h H : Heap} {v : Value} {rows : List (List Value)} (r : RowsW w h v rows) (k : ∀ B blk, rd h B = some blk → rd H B = some blk) : RowsW w H v rows := by
  rcases r with r | ⟨B, o, c, blk, a1, a2, a3, a4, a5⟩
  · exact .inl r
  · exact .inr ⟨B, o, c, blk, a1, a2, k _ _ a3, a4, a5⟩
theorem RowsW.app {w : Nat} {h : Heap} {v : Value} {rows : List (List Value)} (r : RowsW w h v rows) (X : Heap) : RowsW w (h ++ X) v rows := r.more fun _ _ e => rd_more e
theorem RowsW.lenA {w : Nat} {h : Heap} {v : Value} {rows : List (List Value)} (r : RowsW w h v rows) (Γ : Env) (X : Heap) : opA Γ (.len (.const v)) [] X = some (.int .i64 rows.length, X) := by
  rcases r with ⟨rfl, rfl⟩ | ⟨B, o, c, blk, rfl, _⟩ <;> simp [opA, pureA, ev]
/-- The list's cells, as an append reads them. -/
theorem RowsW.src {w : Nat} {h : Heap} {v : Value} {rows : List (List Value)} (r : RowsW w h v rows) : srcA h w v = some (rows.length, rows.flatten) := by
  rcases r with ⟨rfl, rfl⟩ | ⟨B, o, c, blk, rfl, a2, a3, a4, a5, a6⟩
  · rfl
  · have key : ∀ (rows : List (List Value)) (o : Nat), (∀ i (r : List Value), rows[i]? = some r → (blk.cells.drop (o + i * w)).take w = r) → (blk.cells.drop o).take (rows.length * w) = rows.flatten := by
      intro rows
      induction rows with
      | nil => intro o _; simp
      | cons x l ih =>
        intro o hr
        have x2 := hr 0 x rfl
        rw [Nat.zero_mul, Nat.add_zero] at x2
        have i2 := ih (o + w) fun i r e => by
          have y2 := hr (i + 1) r (by simpa using e)
          rw [show o + (i + 1) * w = o + w + i * w by rw [Nat.add_mul, Nat.one_mul]; omega] at y2
          exact y2
        simp only [List.length_cons, Nat.add_mul, Nat.one_mul, List.flatten_cons]
        rw [Nat.add_comm (l.length * w) w, List.take_add, x2, List.drop_drop, i2]
    simp only [srcA, readN, a3, a5, if_true, key rows o a6]
/-- A part of a list. -/
theorem RowsW.cut {w : Nat} {h : Heap} {v : Value} {rows : List (List Value)} (r : RowsW w h v rows) {lo hi : Nat} (h1 : lo ≤ hi) (h2 : hi ≤ rows.length) (lo' hi' : Option Operand)
    (hlo : (lo' = none ∧ lo = 0) ∨ lo' = some (.const (.int .i64 lo))) (hhi : (hi' = none ∧ hi = rows.length) ∨ hi' = some (.const (.int .i64 hi))) :
    ∃ v', (∀ Γ, opA Γ (.slice w (.const v) lo' hi' none) [] h = some (v', h)) ∧ RowsW w h v' ((rows.take hi).drop lo) := by
  rcases r with ⟨rfl, rfl⟩ | ⟨B, o, c, blk, rfl, a2, a3, a4, a6, a5⟩
  · have e2 : hi = 0 := by simpa using h2
    have e1 : lo = 0 := by omega
    subst e1 e2
    refine ⟨.slice none 0 0, fun Γ => ?_, .inl ⟨rfl, by simp⟩⟩
    rcases hlo with ⟨rfl, _⟩ | rfl <;> rcases hhi with ⟨rfl, _⟩ | rfl <;> rfl
  · have bhi : hiB rows.length c (hi'.map (ev [])) = some hi := by
      rcases hhi with ⟨rfl, rfl⟩ | rfl
      · simp only [Option.map_none, hiB, a2, if_true]
      · have : (0 : Int) ≤ hi ∧ (hi : Int) ≤ c := ⟨by omega, by omega⟩
        simp only [Option.map_some, hiB, ev, boundA, this, and_self, if_true, Int.toNat_natCast]
    have blo : loB hi (lo'.map (ev [])) = some lo := by
      rcases hlo with ⟨rfl, rfl⟩ | rfl
      · rfl
      · have : (0 : Int) ≤ lo ∧ (lo : Int) ≤ hi := ⟨by omega, by omega⟩
        simp only [Option.map_some, loB, ev, boundA, this, and_self, if_true, Int.toNat_natCast]
    obtain ⟨q, hq⟩ : ∃ q, isEnd h w ⟨B, o, none⟩ c = some q := by
      unfold isEnd
      simp only [a3]
      split
      · rename_i e he
        obtain ⟨rfl, hw⟩ := a4 e he
        exact ⟨_, if_pos ⟨rfl, hw⟩⟩
      · exact ⟨_, rfl⟩
    have hlen : ((rows.take hi).drop lo).length = hi - lo := by simp; omega
    have hlw : lo * w ≤ rows.length * w := Nat.mul_le_mul_right w (by omega)
    have hhw : lo * w + (hi - lo) * w ≤ rows.length * w := by
      rw [← Nat.add_mul]; exact Nat.mul_le_mul_right w (by omega)
    by_cases hcl : c = lo ∧ q = false
    · refine ⟨.slice (some ⟨B, o, none⟩) (hi - lo) (c - lo), fun Γ => ?_, .inr ⟨B, o, c - lo, blk, by rw [hlen], by rw [hlen]; omega, a3, a4, by rw [hlen]; omega, fun i r e => ?_⟩⟩
      · obtain ⟨hc1, hc2⟩ := hcl
        subst hc1 hc2
        simp only [opA, pureA, ev, sliceA, bhi, blo, Option.map_none, hq, and_self, if_true]
      · have := (List.getElem?_eq_some_iff.1 e).1
        omega
    · refine ⟨.slice (some ⟨B, o + lo * w, none⟩) (hi - lo) (c - lo), fun Γ => ?_, .inr ⟨B, o + lo * w, c - lo, blk, by rw [hlen], by rw [hlen]; omega, a3, a4, by rw [hlen]; omega, fun i r e => ?_⟩⟩
      · simp only [opA, pureA, ev, sliceA, bhi, blo, Option.map_none, hq, hcl, if_false, add_off]
      · rw [List.getElem?_drop, List.getElem?_take] at e
        split at e
        · have := a5 (lo + i) r e
          rw [show o + (lo + i) * w = o + lo * w + i * w by rw [Nat.add_mul]; omega] at this
          exact this
        · cases e

/-! ### Lists that grow -/
/-- A list in the part J of the heap, behind H. -/
def LsS (w : Nat) (H J : Heap) (l : Value) (rows : List (List Value)) : Prop :=
  (rows = [] ∧ l = .slice none 0 0) ∨ (∃ j, rows = [] ∧ l = .slice (some ⟨H.length + j, 0, none⟩) 0 0 ∧ J[j]? = some (some ⟨.fix, []⟩)) ∨
    ∃ j, l = .slice (some ⟨H.length + j, 0, none⟩) rows.length rows.length ∧ rows ≠ [] ∧ (∀ r ∈ rows, r.length = w) ∧ J[j]? = some (some ⟨.grown w, rows.flatten⟩)
theorem LsS.nil {w : Nat} {H J : Heap} : LsS w H J (.slice none 0 0) [] := .inl ⟨rfl, rfl⟩
theorem LsS.more {w : Nat} {H J : Heap} {l : Value} {rows : List (List Value)} (a : LsS w H J l rows) (X : Heap) : LsS w H (J ++ X) l rows := by
  rcases a with a | ⟨j, a1, a2, a4⟩ | ⟨j, a1, a2, a3, a4⟩
  · exact .inl a
  · refine .inr (.inl ⟨j, a1, a2, ?_⟩)
    rw [List.getElem?_append_left (List.getElem?_eq_some_iff.1 a4).1]; exact a4
  · refine .inr (.inr ⟨j, a1, a2, a3, ?_⟩)
    rw [List.getElem?_append_left (List.getElem?_eq_some_iff.1 a4).1]; exact a4
theorem rd_mid {H J R : Heap} {j : Nat} {b : Blk} (e : J[j]? = some (some b)) : rd (H ++ (J ++ R)) (H.length + j) = some b := by
  have hj := (List.getElem?_eq_some_iff.1 e).1
  unfold rd
  rw [List.getElem?_append_right (by omega), Nat.add_sub_cancel_left, List.getElem?_append_left hj, e]
theorem LsS.rows {w : Nat} {H J : Heap} {l : Value} {rows : List (List Value)} (hp : 0 < w) (a : LsS w H J l rows) (R : Heap) : RowsW w (H ++ (J ++ R)) l rows := by
  rcases a with ⟨rfl, rfl⟩ | ⟨j, rfl, rfl, a4⟩ | ⟨j, rfl, a2, a3, a4⟩
  · exact .inl ⟨rfl, rfl⟩
  · exact .inr ⟨_, 0, 0, ⟨.fix, []⟩, rfl, Nat.le_refl _, rd_mid a4, fun e q => (by cases q), by simp, fun i r e => by simp at e⟩
  · refine .inr ⟨_, 0, _, _, rfl, Nat.le_refl _, rd_mid a4, fun e q => by cases q; exact ⟨rfl, hp⟩, by simp only [flat_len a3]; omega, fun i r e => ?_⟩
    have hlt := (List.getElem?_eq_some_iff.1 e).1
    simp only [Nat.zero_add]
    clear a4 a2
    induction rows generalizing i with
    | nil => simp at e
    | cons x l ih =>
      have hx : x.length = w := a3 x (by simp)
      cases i with
      | zero =>
        simp at e; subst e
        simp [List.flatten_cons, ← hx]
      | succ i =>
        simp only [List.flatten_cons]
        rw [show (i + 1) * w = x.length + i * w by rw [Nat.add_mul, Nat.one_mul, hx]; omega, ← List.drop_drop, List.drop_left]
        exact ih (fun r hr => a3 r (by simp [hr])) i (by simpa using e) (by simpa using hlt)
theorem LsS.lenA {w : Nat} {H J : Heap} {l : Value} {rows : List (List Value)} (a : LsS w H J l rows) (Γ : Env) (X : Heap) : opA Γ (.len (.const l)) [] X = some (.int .i64 rows.length, X) := by
  rcases a with ⟨rfl, rfl⟩ | ⟨j, rfl, rfl, a4⟩ | ⟨j, rfl, a2, a3, a4⟩ <;> simp [opA, pureA, ev]
theorem LsS.wid {w : Nat} {H J : Heap} {l : Value} {rows : List (List Value)} (a : LsS w H J l rows) : ∀ r ∈ rows, r.length = w := by
  rcases a with ⟨rfl, _⟩ | ⟨_, rfl, _⟩ | ⟨_, _, _, a, _⟩
  · intro r h; cases h
  · intro r h; cases h
  · exact a
/-- The list that an append makes. -/
theorem LsS.made {w : Nat} {H J2 R : Heap} {rows : List (List Value)} (hr : ∀ r ∈ rows, r.length = w) (hne : rows ≠ []) {n j : Nat} (hn : n = rows.length) (hj : j = J2.length + R.length) (X : Heap) :
    LsS w H (J2 ++ (R ++ [some ⟨.grown w, rows.flatten⟩] ++ X)) (.slice (some ⟨H.length + j, 0, none⟩) n n) rows := by
  subst hn hj
  refine .inr (.inr ⟨_, rfl, hne, hr, ?_⟩)
  rw [List.getElem?_append_right (by omega), Nat.add_sub_cancel_left, List.append_assoc, List.getElem?_append_right (Nat.le_refl _)]
  simp
/-- An append of some rows. -/
theorem LsS.grow {w eby : Nat} {H J R : Heap} {l x : Value} {rows new : List (List Value)} (a : LsS w H J l rows) (hx : srcA (H ++ (J ++ R)) w x = some (new.length, new.flatten)) (hp : 0 < w) (hne : new ≠ [])
    (hb : (rows.length + new.length) * eby ≤ 1099511627776) (hc : rows.length + new.length ≤ 1099511627776) :
    ∃ J2 : Heap, J2.length = J.length ∧ (∀ Γ, opA Γ (.append w eby (.const l) (.const x)) [] (H ++ (J ++ R)) =
        some (.slice (some ⟨H.length + (J2.length + R.length), 0, none⟩) (rows.length + new.length) (rows.length + new.length), H ++ (J2 ++ (R ++ [some ⟨.grown w, (rows ++ new).flatten⟩])))) ∧
      (∀ (k : Nat) (b : Blk), J[k]? = some (some b) → (∀ n : Nat, l ≠ .slice (some ⟨H.length + k, 0, none⟩) n n) → J2[k]? = some (some b)) := by
  have hn : ¬ new.length = 0 := fun q => hne (List.length_eq_zero_iff.1 q)
  rcases a with ⟨rfl, rfl⟩ | ⟨j, rfl, rfl, a4⟩ | ⟨j, rfl, a2, a3, a4⟩
  · refine ⟨J, rfl, fun Γ => ?_, fun k b hk _ => hk⟩
    have h1 : new.length * eby ≤ 1099511627776 := by simpa using hb
    have h2 : new.length ≤ 1099511627776 := by simpa using hc
    simp only [opA, ev, appA, hx, hn, if_false, hp, h1, h2, and_self, if_true, List.length_nil, Nat.zero_add, List.nil_append, List.length_append, List.append_assoc]
  · refine ⟨J, rfl, fun Γ => ?_, fun k b hk _ => hk⟩
    have h1 : new.length * eby ≤ 1099511627776 := by simpa using hb
    have h2 : new.length ≤ 1099511627776 := by simpa using hc
    have hlt : ¬ (new.length ≤ 0) := by omega
    simp only [opA, ev, appA, hx, hn, if_false, hlt, hp, h1, h2, and_self, if_true, readN, isEnd, rd_mid a4, List.length_nil, Nat.zero_mul, Nat.add_zero, Nat.le_refl, List.drop_nil, List.take_nil, Nat.zero_add, List.nil_append, List.length_append, List.append_assoc]
    simp
  · have hj := (List.getElem?_eq_some_iff.1 a4).1
    refine ⟨J.set j none, by simp, fun Γ => ?_, fun k b hk hne' => ?_⟩
    · have hfl := flat_len a3
      have hread : readN (H ++ (J ++ R)) ⟨H.length + j, 0, none⟩ (rows.length * w) = some rows.flatten := by
        simp only [readN, rd_mid a4, Nat.zero_add, hfl, Nat.le_refl, if_true, List.drop_zero]
        rw [← hfl, List.take_length]
      have hend : isEnd (H ++ (J ++ R)) w ⟨H.length + j, 0, none⟩ rows.length = some true := by
        simp only [isEnd, rd_mid a4, hp, and_self, if_true, Nat.zero_add, hfl, beq_self_eq_true]
      have hlt : ¬ (rows.length + new.length ≤ rows.length) := by omega
      have hset : (H ++ (J ++ R)).set (H.length + j) none = H ++ (J.set j none ++ R) := by
        rw [List.set_append_right _ _ (by omega), Nat.add_sub_cancel_left, List.set_append_left _ _ hj]
      simp only [opA, ev, appA, hx, hn, if_false, hlt, hp, hb, hc, and_self, if_true, hread, hend, hset, List.length_append, List.length_set, List.append_assoc, List.flatten_append]
    · have hjk : j ≠ k := fun q => by subst q; exact hne' _ rfl
      rw [List.getElem?_set_ne hjk]; exact hk
/-- An append of a list that may be empty: what is laid on top is one block, or none. -/
theorem LsS.all {w eby : Nat} {H J R : Heap} {l x : Value} {new : List (List Value)} (a : LsS w H J l []) (hx : srcA (H ++ (J ++ R)) w x = some (new.length, new.flatten)) (hw : ∀ r ∈ new, r.length = w) (hp : 0 < w)
    (hb : new.length * eby ≤ 1099511627776) (hc : new.length ≤ 1099511627776) :
    ∃ (v : Value) (X : Heap), (∀ Γ, opA Γ (.append w eby (.const l) (.const x)) [] (H ++ (J ++ R)) = some (v, H ++ (J ++ (R ++ X)))) ∧ LsS w H (J ++ (R ++ X)) v new ∧ ((∃ a n c, l = .slice (some a) n c) → ∃ a n c, v = .slice (some a) n c) := by
  by_cases hne : new = []
  · subst hne
    refine ⟨l, [], fun Γ => ?_, ?_, id⟩
    · rcases a with ⟨_, rfl⟩ | ⟨j, _, rfl, a4⟩ | ⟨j, rfl, a2, a3, a4⟩
      · simp only [opA, ev, appA, hx, List.length_nil, if_true, Nat.le_refl, List.append_nil]
      · simp only [opA, ev, appA, hx, List.length_nil, if_true, Nat.le_refl, List.append_nil]
      · exact absurd rfl a2
    · exact a.more _
  · obtain ⟨J2, _, g1, _⟩ := a.grow (R := R) hx hp hne (eby := eby) (by simpa using hb) (by simpa using hc)
    rcases a with ⟨_, rfl⟩ | ⟨j, _, rfl, a4⟩ | ⟨j, rfl, a2, a3, a4⟩
    · have hn : ¬ new.length = 0 := fun q => hne (List.length_eq_zero_iff.1 q)
      refine ⟨.slice (some ⟨H.length + (J.length + R.length), 0, none⟩) new.length new.length, [some ⟨.grown w, new.flatten⟩], fun Γ => ?_, ?_, fun _ => ⟨_, _, _, rfl⟩⟩
      rotate_left
      · have := LsS.made (H := H) (J2 := J) (R := R) hw hne (n := new.length) (j := J.length + R.length) rfl rfl []
        simpa using this
      · simp only [opA, ev, appA, hx, hn, if_false, hp, hb, hc, and_self, if_true, List.length_append, List.append_assoc]
    · have hn : ¬ new.length = 0 := fun q => hne (List.length_eq_zero_iff.1 q)
      have hlt : ¬ (new.length ≤ 0) := by omega
      refine ⟨.slice (some ⟨H.length + (J.length + R.length), 0, none⟩) new.length new.length, [some ⟨.grown w, new.flatten⟩], fun Γ => ?_, ?_, fun _ => ⟨_, _, _, rfl⟩⟩
      rotate_left
      · have := LsS.made (H := H) (J2 := J) (R := R) hw hne (n := new.length) (j := J.length + R.length) rfl rfl []
        simpa using this
      · simp only [opA, ev, appA, hx, hn, if_false, hlt, hp, hb, hc, and_self, if_true, readN, isEnd, rd_mid a4, List.length_nil, Nat.zero_mul, Nat.add_zero, Nat.le_refl, List.drop_nil, List.take_nil, Nat.zero_add, List.nil_append, List.length_append, List.append_assoc]
        simp
    · exact absurd rfl a2
/-- An append of some rows, or of none. -/
theorem LsS.app {w eby : Nat} {H J R : Heap} {l x : Value} {rows new : List (List Value)} (a : LsS w H J l rows) (hx : srcA (H ++ (J ++ R)) w x = some (new.length, new.flatten)) (hw : ∀ r ∈ new, r.length = w) (hp : 0 < w)
    (hb : (rows.length + new.length) * eby ≤ 1099511627776) (hc : rows.length + new.length ≤ 1099511627776) :
    ∃ (v : Value) (J2 X : Heap), J2.length = J.length ∧ (∀ Γ, opA Γ (.append w eby (.const l) (.const x)) [] (H ++ (J ++ R)) = some (v, H ++ (J2 ++ (R ++ X)))) ∧ LsS w H (J2 ++ (R ++ X)) v (rows ++ new) := by
  by_cases hne : new = []
  · subst hne
    refine ⟨l, J, [], rfl, fun Γ => ?_, by simp only [List.append_nil]; exact a.more _⟩
    rcases a with ⟨rfl, rfl⟩ | ⟨j, rfl, rfl, a4⟩ | ⟨j, rfl, a2, a3, a4⟩ <;> simp only [opA, ev, appA, hx, List.length_nil, if_true, Nat.le_refl, List.append_nil]
  · obtain ⟨J2, g0, g1, _⟩ := a.grow (R := R) hx hp hne hb hc
    refine ⟨_, J2, _, g0, g1, ?_⟩
    have hw2 : ∀ r ∈ rows ++ new, r.length = w := fun r hr => by
      rcases List.mem_append.1 hr with q | q
      · exact a.wid r q
      · exact hw r q
    have := LsS.made (H := H) (J2 := J2) (R := R) hw2 (by simp [hne]) (n := rows.length + new.length) (j := J2.length + R.length) (by simp) rfl []
    simpa using this
theorem eqv_nil {v : Value} (h : ∃ a n c, v = .slice (some a) n c) (Γ : Env) : opA Γ (.eqv false .slc (.const v) (.const (.slice none 0 0))) [] [] = some (.bool false, []) := by
  obtain ⟨a, n, c, rfl⟩ := h
  rfl
theorem mn_ok (Γ : Env) (a b : Nat) : opA Γ (.mn (.const (.int .i64 a)) (.const (.int .i64 b))) [] [] = some (.int .i64 (min a b : Nat), []) := by
  simp only [opA, pureA, ev, if_true]
  congr 3
  split <;> omega
/-- The cells of a row slice that lies in an item. -/
theorem src_item {I : SH} {k o n c w : Nat} {kd : Kind} {cs : List SV} (e : I[k]? = some (.blk kd cs)) (hle : o + n * w ≤ cs.length) : srcA (denH I) w (denV (ofs I) (.sl k o n c)) = some (n, ((cs.map (den0 (ofs I))).drop o).take (n * w)) := by
  simp only [denV, denA, den0, srcA, readN, rd_item e, List.length_map, hle, if_true]
end Go.Am
