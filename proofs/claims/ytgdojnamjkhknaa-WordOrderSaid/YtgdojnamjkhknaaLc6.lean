/-
  Rows of two, of three and of seven; are two lists the same?
-/
import Derived.Test.YtgdojnamjkhknaaLc5
namespace Go.Am
set_option linter.all false
structure R2 where
  a : Int
  b : Int
structure R3 where
  a : Int
  b : Int
  c : Int
structure R7 where
  a : Int
  b : Int
  c : Int
  d : Int
  e : Int
  f : Int
  g : Bool
def e2 (x : R2) : List Value := [.int .i64 x.a, .int .i64 x.b]
def e3 (x : R3) : List Value := [.int .i64 x.a, .int .i64 x.b, .int .i64 x.c]
def e7 (x : R7) : List Value := [.int .i64 x.a, .int .i64 x.b, .int .i64 x.c, .int .i64 x.d, .int .i64 x.e, .int .i64 x.f, .bool x.g]
theorem map_inj {α : Type} {enc : α → List Value} (h : ∀ x y, enc x = enc y → x = y) : ∀ {a b : List α}, a.map enc = b.map enc → a = b
  | [], [], _ => rfl
  | x :: l, y :: m, e => by
    simp only [List.map_cons, List.cons.injEq] at e
    rw [h _ _ e.1, map_inj h e.2]
  | [], _ :: _, e => by cases e
  | _ :: _, [], e => by cases e
theorem ir_1 (x y : Int) (h : ir x = ir y) : x = y := by simpa [ir] using h
theorem br_1 (x y : Int) (h : br x = br y) : x = y := by simpa [br] using h
theorem e2_1 (x y : R2) (h : e2 x = e2 y) : x = y := by cases x; cases y; simpa [e2] using h
theorem e3_1 (x y : R3) (h : e3 x = e3 y) : x = y := by cases x; cases y; simpa [e3] using h
theorem e7_1 (x y : R7) (h : e7 x = e7 y) : x = y := by cases x; cases y; simpa [e7] using h
def R2.in64 (x : R2) : Prop := In64 x.a ∧ In64 x.b
def R3.in64 (x : R3) : Prop := In64 x.a ∧ In64 x.b ∧ In64 x.c
def R7.in64 (x : R7) : Prop := In64 x.a ∧ In64 x.b ∧ In64 x.c ∧ In64 x.d ∧ In64 x.e ∧ In64 x.f
theorem lt_r2 {H : Heap} {v : Value} (h : LT.ok H (.s 2 [.i .i64, .i .i64]) v) : ∃ l : List R2, RowsW 2 H v (l.map e2) ∧ ∀ x ∈ l, x.in64 := by
  obtain ⟨rows, h1, h2⟩ := h
  obtain ⟨zs, rfl, h3⟩ := rows_map (enc := e2) (p := R2.in64) fun r hr => by
    cases h2 r hr with
    | cons h0 h => cases h with
      | cons h1 h => cases h with
        | nil =>
          obtain ⟨a, rfl, ha⟩ := lk_int h0
          obtain ⟨b, rfl, hb⟩ := lk_int h1
          exact ⟨⟨a, b⟩, rfl, ha, hb⟩
  exact ⟨zs, h1, h3⟩
theorem lt_r3 {H : Heap} {v : Value} (h : LT.ok H (.s 3 [.i .i64, .i .i64, .i .i64]) v) : ∃ l : List R3, RowsW 3 H v (l.map e3) ∧ ∀ x ∈ l, x.in64 := by
  obtain ⟨rows, h1, h2⟩ := h
  obtain ⟨zs, rfl, h3⟩ := rows_map (enc := e3) (p := R3.in64) fun r hr => by
    cases h2 r hr with
    | cons h0 h => cases h with
      | cons h1 h => cases h with
        | cons h2 h => cases h with
          | nil =>
            obtain ⟨a, rfl, ha⟩ := lk_int h0
            obtain ⟨b, rfl, hb⟩ := lk_int h1
            obtain ⟨c, rfl, hc⟩ := lk_int h2
            exact ⟨⟨a, b, c⟩, rfl, ha, hb, hc⟩
  exact ⟨zs, h1, h3⟩
theorem lt_r7 {H : Heap} {v : Value} (h : LT.ok H (.s 7 [.i .i64, .i .i64, .i .i64, .i .i64, .i .i64, .i .i64, .b]) v) : ∃ l : List R7, RowsW 7 H v (l.map e7) ∧ ∀ x ∈ l, x.in64 := by
  obtain ⟨rows, h1, h2⟩ := h
  obtain ⟨zs, rfl, h3⟩ := rows_map (enc := e7) (p := R7.in64) fun r hr => by
    cases h2 r hr with
    | cons h0 h => cases h with
      | cons h1 h => cases h with
        | cons h2 h => cases h with
          | cons h3 h => cases h with
            | cons h4 h => cases h with
              | cons h5 h => cases h with
                | cons h6 h => cases h with
                  | nil =>
                    obtain ⟨a, rfl, ha⟩ := lk_int h0
                    obtain ⟨b, rfl, hb⟩ := lk_int h1
                    obtain ⟨c, rfl, hc⟩ := lk_int h2
                    obtain ⟨d, rfl, hd⟩ := lk_int h3
                    obtain ⟨e, rfl, he⟩ := lk_int h4
                    obtain ⟨f, rfl, hf⟩ := lk_int h5
                    obtain ⟨g, rfl⟩ := lk_bool h6
                    exact ⟨⟨a, b, c, d, e, f, g⟩, rfl, ha, hb, hc, hd, he, hf⟩
  exact ⟨zs, h1, h3⟩
/-- Are two lists the same? -/
noncomputable def same {α : Type} (a b : List α) : Bool := @decide (a = b) (Classical.propDecidable _)
theorem same_t {α : Type} {a b : List α} (h : a = b) : same a b = true := by unfold same; exact @decide_eq_true _ (Classical.propDecidable _) h
theorem same_f {α : Type} {a b : List α} (h : a ≠ b) : same a b = false := by unfold same; exact @decide_eq_false _ (Classical.propDecidable _) h
theorem same_iff {α : Type} {a b : List α} : same a b = true ↔ a = b := by unfold same; exact @decide_eq_true_iff _ (Classical.propDecidable _)
/-- The summary of a function that asks whether two lists are the same. -/
def preSame {α : Type} (w : Nat) (enc : α → List Value) (x : List α × List α) (args : List Value) (h : Heap) : Prop := ∃ a b, args = [a, b] ∧ RowsW w h a (x.1.map enc) ∧ RowsW w h b (x.2.map enc) ∧ x.1.length ≤ 1099511627776
noncomputable def resSame {α : Type} (x : List α × List α) (h : Heap) : Value × Heap := (.bool (same x.1 x.2), h)
theorem callSame {α : Type} {w : Nat} {enc : α → List Value} (hi : ∀ x y, enc x = enc y → x = y) {a b : Value} {h : Heap} {la lb : List α} (ha : RowsW w h a (la.map enc)) (hb : RowsW w h b (lb.map enc)) (hl : la.length ≤ 1099511627776) : smry (preSame w enc) resSame [a, b] h = some (.bool (same la lb), h) :=
  smry_some (x := (la, lb)) ⟨a, b, rfl, ha, hb, hl⟩ fun y ⟨a', b', e, ha', hb', _⟩ => by
    simp only [List.cons.injEq, and_true] at e
    obtain ⟨rfl, rfl⟩ := e
    have h1 := map_inj hi (ha.uniq ha')
    have h2 := map_inj hi (hb.uniq hb')
    obtain ⟨y1, y2⟩ := y
    simp only at h1 h2
    subst h1 h2
    rfl
end Go.Am
