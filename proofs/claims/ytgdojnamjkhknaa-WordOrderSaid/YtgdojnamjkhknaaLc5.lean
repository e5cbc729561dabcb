/-
  Rows of some kind, as a list of what they tell.
-/
import Derived.Test.YtgdojnamjkhknaaLc4
namespace Go.Am
set_option linter.all false
theorem rows_map {α : Type} {enc : α → List Value} {p : α → Prop} : ∀ {rows : List (List Value)}, (∀ r ∈ rows, ∃ x, r = enc x ∧ p x) → ∃ l : List α, rows = l.map enc ∧ ∀ x ∈ l, p x
  | [], _ => ⟨[], rfl, fun x h => by cases h⟩
  | r :: rs, h => by
    obtain ⟨x, rfl, hx⟩ := h r (by simp)
    obtain ⟨l, rfl, hl⟩ := rows_map (rows := rs) fun r hr => h r (by simp [hr])
    exact ⟨x :: l, rfl, fun y hy => by
      rcases List.mem_cons.1 hy with rfl | hy
      · exact hx
      · exact hl y hy⟩
def In64 (z : Int) : Prop := -9223372036854775808 ≤ z ∧ z ≤ 9223372036854775807
theorem lk_int {v : Value} (h : LK.ok (.i .i64) v) : ∃ z, v = .int .i64 z ∧ In64 z := by
  obtain ⟨z, rfl, h1, h2⟩ := h
  exact ⟨z, rfl, h1, h2⟩
theorem lk_byte {v : Value} (h : LK.ok (.i .u8) v) : ∃ z, v = .int .u8 z ∧ 0 ≤ z ∧ z < 256 := by
  obtain ⟨z, rfl, h1, h2⟩ := h
  have h2' : z ≤ 255 := h2
  exact ⟨z, rfl, h1, by omega⟩
theorem lk_bool {v : Value} (h : LK.ok .b v) : ∃ b, v = .bool b := h
/-- A slice of whole numbers. -/
theorem lt_ints {H : Heap} {v : Value} (h : LT.ok H (.s 1 [.i .i64]) v) : ∃ zs : List Int, RowsW 1 H v (zs.map ir) ∧ ∀ z ∈ zs, In64 z := by
  obtain ⟨rows, h1, h2⟩ := h
  obtain ⟨zs, rfl, h3⟩ := rows_map (enc := ir) (p := In64) fun r hr => by
    cases h2 r hr with
    | cons h hn => cases hn; obtain ⟨z, rfl, hz⟩ := lk_int h; exact ⟨z, rfl, hz⟩
  exact ⟨zs, h1, h3⟩
def InB (z : Int) : Prop := 0 ≤ z ∧ z < 256
theorem lt_bytes {H : Heap} {v : Value} (h : LT.ok H (.s 1 [.i .u8]) v) : ∃ zs : List Int, RowsW 1 H v (zs.map br) ∧ ∀ z ∈ zs, InB z := by
  obtain ⟨rows, h1, h2⟩ := h
  obtain ⟨zs, rfl, h3⟩ := rows_map (enc := br) (p := InB) fun r hr => by
    cases h2 r hr with
    | cons h hn => cases hn; obtain ⟨z, rfl, hz⟩ := lk_byte h; exact ⟨z, rfl, hz⟩
  exact ⟨zs, h1, h3⟩
theorem lt_int {H : Heap} {v : Value} (h : LT.ok H (.f (.i .i64)) v) : ∃ z, v = .int .i64 z ∧ In64 z := lk_int h
theorem lt_byte {H : Heap} {v : Value} (h : LT.ok H (.f (.i .u8)) v) : ∃ z, v = .int .u8 z ∧ InB z := lk_byte h
theorem lt_bool {H : Heap} {v : Value} (h : LT.ok H (.f .b) v) : ∃ b, v = .bool b := h
theorem arg_one {H : Heap} {k : LT} {a : Value} (h : ArgOk H false [k] a) : k.ok H a := by
  unfold ArgOk at h
  simp only [Bool.false_eq_true, if_false] at h
  cases h with
  | cons h _ => exact h
theorem arg_agg {H : Heap} {ks : List LT} {a : Value} (h : ArgOk H true ks a) : ∃ A, a = .agg ⟨A⟩ ∧ F2 (LT.ok H) ks A := by
  unfold ArgOk at h
  simpa using h
end Go.Am
