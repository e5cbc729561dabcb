/-
  Values compared cell by cell.
-/
import Derived.Test.YtjnppjipoibbeaaAm3
namespace Go.Am
set_option linter.all false

variable {P : Program} {ι : Map} {h : Heap} {w : World} {t : Fr} {a : Act}

/-- The value of a type, out of its cells. -/
def asVal (P : Program) (T : TypeId) (cs : List Value) : Value :=
  match P.underlying T with
  | some (.struct _) | some (.array _ _) => .agg ⟨cs⟩
  | _ => cs.getD 0 undef

theorem eqCells_len : ∀ (g : List Bool) (a b : List Value) (z : Bool), eqCells g a b = some z → a.length = g.length ∧ b.length = g.length
  | [], [], [], _, _ => ⟨rfl, rfl⟩
  | g :: gs, u :: a, v :: b, z, e => by
    simp only [eqCells] at e
    split at e
    · rename_i p q hp hq
      have := eqCells_len gs a b q hq
      simp [this]
    · cases e
  | [], _ :: _, _, _, e => by simp [eqCells] at e
  | [], [], _ :: _, _, e => by simp [eqCells] at e
  | _ :: _, [], _, _, e => by simp [eqCells] at e
  | _ :: _, _ :: _, [], _, e => by simp [eqCells] at e

theorem eqCells_split : ∀ (g g2 : List Bool) (a b : List Value) (z : Bool), eqCells (g ++ g2) a b = some z →
    ∃ x y, eqCells g (a.take g.length) (b.take g.length) = some x ∧ eqCells g2 (a.drop g.length) (b.drop g.length) = some y ∧ z = (x && y)
  | [], g2, a, b, z, e => ⟨true, z, rfl, by simpa using e, by simp⟩
  | g :: gs, g2, u :: a, v :: b, z, e => by
    simp only [List.cons_append, eqCells] at e
    split at e
    · rename_i p q hp hq
      cases e
      obtain ⟨x, y, h1, h2, rfl⟩ := eqCells_split gs g2 a b q hq
      exact ⟨p && x, y, by simp [eqCells, hp, h1], by simpa using h2, by simp [Bool.and_assoc]⟩
    · cases e
  | _ :: _, _, [], _, z, e => by simp [eqCells] at e
  | _ :: _, _, _ :: _, [], z, e => by simp [eqCells] at e

theorem part_asVal {T : TypeId} {off n : Nat} {cs : List Value} (hs : szT P T = some n) (hd : (P.underlying T).isSome) (hn : off + n ≤ cs.length)
    (h1 : (match P.underlying T with | some (.struct _) | some (.array _ _) => True | _ => n = 1)) :
    (part T ⟨cs⟩ off).run P w = .ok (asVal P T ((cs.drop off).take n)) w := by
  obtain ⟨d, hu⟩ := Option.isSome_iff_exists.1 hd
  unfold asVal
  have sc : ∀ d, P.underlying T = some d → (∀ f, d ≠ .struct f) → (∀ n e, d ≠ .array n e) → n = 1 → (part T ⟨cs⟩ off).run P w = .ok (((cs.drop off).take n).getD 0 undef) w := by
    intro d hu hf ha h1
    subst h1
    have hag : (isAgg T).run P w = .ok false w := by
      unfold isAgg
      rw [Sem.run_bind, run_und hu]
      cases d <;> simp_all
    have hv : cs[off]? = some cs[off] := List.getElem?_eq_getElem (by omega)
    simp [part, hag, List.getD, List.getElem?_drop, hv]
  rw [hu] at h1 ⊢
  cases d with
  | struct fs => simp [part, isAgg, run_und hu, run_sz hs]
  | array m e => simp [part, isAgg, run_und hu, run_sz hs]
  | _ => exact sc _ hu (by simp) (by simp) h1

theorem leaves_sz : ∀ (d : Nat) (T : TypeId) (g : List Bool), leaves P d T = some g → (P.underlying T).isSome = true ∧ (match P.underlying T with | some (.struct _) | some (.array _ _) => True | _ => g.length = 1)
  | 0, T, n, e => by cases e
  | d + 1, T, n, e => by
    simp only [leaves] at e
    split at e <;> rename_i hu <;> simp [hu]
    · cases e; rfl
    · cases e; rfl
    · cases e

abbrev EqOk (P : Program) (D : Nat) (T : TypeId) (g : List Bool) : Prop := ∀ (xs ys : List Value) (b : Bool) (w : World), eqCells g xs ys = some b →
      (Op.equalIn D T (asVal P T xs) (asVal P T ys)).run P w = .ok b w

/-- The fields of a struct, from one on. -/
theorem fields_sim (d D : Nat) (ih : ∀ (T : TypeId) (g : List Bool), leaves P d T = some g → EqOk P D T g) :
    ∀ (fs : List Field) (k : Nat) (g : List Bool), leavesF P (leaves P d) fs k = some g → ∀ (xs ys : List Value) (b : Bool) (w : World), k ≤ xs.length → k ≤ ys.length → eqCells g (xs.drop k) (ys.drop k) = some b →
      (Op.eqFields D ⟨xs⟩ ⟨ys⟩ fs).run P w = .ok b w
  | [], k, g, e, xs, ys, b, w, _, _, he => by
    simp [leavesF] at e
    subst e
    have := eqCells_len _ _ _ _ he
    rw [List.length_eq_zero_iff.1 this.1, List.length_eq_zero_iff.1 this.2] at he
    simp [eqCells] at he
    simp [Op.eqFields, he]
  | f :: fs, k, g, e, xs, ys, b, w, hkx, hky, he => by
    simp only [leavesF] at e
    split at e
    · rename_i m hl
      split at e
      · rename_i hc
        split at e
        · rename_i r hr
          cases e
          obtain ⟨h1, h2, h3⟩ := hc
          have hlen := eqCells_len _ _ _ _ he
          obtain ⟨x, y, hx1, hy1, rfl⟩ := eqCells_split m _ _ _ _ he
          rw [List.drop_drop, List.drop_drop] at hy1
          simp at hlen
          have hf := fields_sim d D ih fs (k + m.length) r hr xs ys y w (by omega) (by omega) hy1
          obtain ⟨g1, g2⟩ := leaves_sz d f.type m hl
          have hp1 := part_asVal (P := P) (w := w) (cs := xs) (off := k) h3 g1 (by omega) g2
          have hp2 := part_asVal (P := P) (w := w) (cs := ys) (off := k) h3 g1 (by omega) g2
          have heq := ih f.type m hl _ _ x w hx1
          have hnm : f.name ≠ "_" := by simpa using h2
          simp only [Op.eqFields, hnm, ne_eq, not_false_eq_true, if_true, h1, Sem.run_bind, hp1, hp2, Result.andThen_ok, heq]
          cases x
          · simp
          · simpa using hf
        · cases e
      · cases e
    · cases e

/-- The elements of an array, from one on. -/
def eqElems (D : Nat) (e : TypeId) (n : Nat) (xs ys : Array Value) : List Nat → Sem Bool
  | [] => pure true
  | i :: r => do
    let a ← part e xs (i * n)
    let b ← part e ys (i * n)
    let q ← Op.equalIn D e a b
    if (!q) = true then pure false else eqElems D e n xs ys r

theorem run_equalIn_array (D : Nat) (T : TypeId) (len : Nat) (e : TypeId) (n : Nat) (xs ys : Array Value) (ht : P.underlying T = some (.array len e)) (hs : szT P e = some n) :
    (Op.equalIn (D + 1) T (.agg xs) (.agg ys)).run P w = (eqElems D e n xs ys (List.range len)).run P w := by
  simp only [Op.equalIn, Sem.run_bind, run_underlying ht, Result.andThen_ok, run_sz hs]
  rw [Std.Legacy.Range.forIn_eq_forIn_range']
  simp only [Std.Legacy.Range.size, Nat.sub_zero, Nat.add_sub_cancel, Nat.div_one]
  rw [← List.range_eq_range']
  generalize List.range len = l
  induction l generalizing w with
  | nil => simp [eqElems]
  | cons i l ih =>
    simp only [List.forIn_cons, eqElems, Sem.run_bind]
    generalize (part e xs (i * n)).run P w = r1
    cases r1 with
    | ok a w1 =>
      simp only [Result.andThen_ok]
      generalize (part e ys (i * n)).run P w1 = r2
      cases r2 with
      | ok b w2 =>
        simp only [Result.andThen_ok]
        generalize (Op.equalIn D e a b).run P w2 = r3
        cases r3 with
        | ok r w3 =>
          cases r
          · simp only [Result.andThen_ok, Bool.not_false, if_true, Sem.run_pure]
          · simp only [Result.andThen_ok, Bool.not_true, Bool.false_eq_true, if_false, Sem.run_pure]
            exact ih
        | halt x w3 => simp [Result.andThen]
      | halt x w2 => simp [Result.andThen]
    | halt x w1 => simp [Result.andThen]

theorem elems_sim (d D : Nat) (e : TypeId) (m : List Bool) (hm : leaves P d e = some m) (hs : szT P e = some m.length) (ih : EqOk P D e m) :
    ∀ (c k : Nat) (xs ys : List Value) (b : Bool) (w : World), xs.length = (k + c) * m.length → ys.length = (k + c) * m.length → eqCells (List.replicate c m).flatten (xs.drop (k * m.length)) (ys.drop (k * m.length)) = some b →
      (eqElems D e m.length ⟨xs⟩ ⟨ys⟩ (List.range' k c)).run P w = .ok b w
  | 0, k, xs, ys, b, w, hx, hy, he => by
    rw [List.drop_eq_nil_of_le (by simp at hx; omega), List.drop_eq_nil_of_le (by simp at hy; omega)] at he
    simp [eqCells] at he
    simp [eqElems, he]
  | c + 1, k, xs, ys, b, w, hx, hy, he => by
    rw [List.replicate_succ, List.flatten_cons] at he
    obtain ⟨x, y, hx1, hy1, rfl⟩ := eqCells_split m _ _ _ _ he
    rw [List.drop_drop, List.drop_drop, show k * m.length + m.length = (k + 1) * m.length by rw [Nat.succ_mul]] at hy1
    have hf := elems_sim d D e m hm hs ih c (k + 1) xs ys y w (by rw [hx]; congr 1; omega) (by rw [hy]; congr 1; omega) hy1
    obtain ⟨g1, g2⟩ := leaves_sz d e m hm
    have hle : k * m.length + m.length ≤ (k + (c + 1)) * m.length := by rw [← Nat.succ_mul]; exact Nat.mul_le_mul_right _ (by omega)
    have hp1 := part_asVal (P := P) (w := w) (cs := xs) (off := k * m.length) hs g1 (by omega) g2
    have hp2 := part_asVal (P := P) (w := w) (cs := ys) (off := k * m.length) hs g1 (by omega) g2
    have heq := ih _ _ x w hx1
    simp only [List.range'_succ, eqElems, Sem.run_bind, hp1, hp2, Result.andThen_ok, heq]
    cases x
    · simp
    · simpa using hf

theorem leaves_sim : ∀ (d D : Nat), d ≤ D → ∀ (T : TypeId) (g : List Bool), leaves P d T = some g → EqOk P D T g
  | 0, D, _, T, g, e => by cases e
  | d + 1, D, hD, T, g, e => by
    intro xs ys b w he
    obtain ⟨D, rfl⟩ : ∃ D', D = D' + 1 := ⟨D - 1, by omega⟩
    have ih := leaves_sim d D (by omega)
    have hlen := eqCells_len _ _ _ _ he
    have one : ∀ (l : List Value), l.length = 1 → ∃ v, l = [v] := fun l hl => by
      match l, hl with
      | [v], _ => exact ⟨v, rfl⟩
    simp only [leaves] at e
    split at e
    · rename_i hu
      cases e
      obtain ⟨x, rfl⟩ := one xs (by simpa using hlen.1)
      obtain ⟨y, rfl⟩ := one ys (by simpa using hlen.2)
      simp only [asVal, hu, List.getD_cons_zero]
      simp only [eqCells] at he
      split at he
      · rename_i p q hp hq
        cases hq
        cases he
        cases x <;> cases y <;> simp [eq1] at hp
        subst hp
        simp [Op.equalIn, run_und hu]
      · cases he
    · rename_i k0 hu
      cases e
      obtain ⟨x, rfl⟩ := one xs (by simpa using hlen.1)
      obtain ⟨y, rfl⟩ := one ys (by simpa using hlen.2)
      simp only [asVal, hu, List.getD_cons_zero]
      simp only [eqCells] at he
      split at he
      · rename_i p q hp hq
        cases hq
        cases he
        cases x <;> cases y <;> simp [eq1] at hp
        obtain ⟨h1, h2⟩ := hp
        subst h1
        subst h2
        simp [Op.equalIn, run_und hu]
      · cases he
    · rename_i fs hu
      split at e
      · cases e
      · rename_i hst
        have hfs : P.fieldsOf T = fs := by simp [Program.fieldsOf, hu]
        simp only [asVal, hu]
        rw [run_equalIn_struct w D T _ _ (by rw [hfs]; exact hu) (by simpa using hst), hfs]
        exact fields_sim d D ih fs.toList 0 g e xs ys b w (Nat.zero_le _) (Nat.zero_le _) (by simpa using he)
    · rename_i n el hu
      split at e
      · rename_i m hm
        split at e
        · rename_i hs
          cases e
          simp only [asVal, hu]
          rw [run_equalIn_array D T n el m.length _ _ hu hs, List.range_eq_range']
          simp at hlen
          exact elems_sim d D el m hm hs (ih el m hm) n 0 xs ys b w (by simpa using hlen.1) (by simpa using hlen.2) (by simpa using he)
        · cases e
      · cases e
    · cases e

end Go.Am
