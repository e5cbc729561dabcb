/-
  pool: a tape of loans as they stand may be; what it turns.
-/
import Derived.Test.YtgdojnamjkhknaaPo3
import Derived.Test.YtgdojnamjkhknaaPo5
namespace Go.Proofs.Ytgdojnamjkhknaa
open Go.Am
set_option linter.all false
set_option maxRecDepth 100000
namespace PO
open PK (pk)
open TL (TN)
open OF (yL lineO ofG ofF)
def nowOf (l : List L5) : List R2 := l.map fun x => ⟨x.a, x.b⟩
def lostOf (l : List L5) : List Int := l.map L5.c
structure okL (x : L5) : Prop where
  b0 : 0 ≤ x.b
  b1 : x.b ≤ 100000
  c0 : 0 ≤ x.c
  c1 : x.c ≤ 100000
  ov : x.e = true → x.b = 0
  nt : x.e = false → x.c = 0
def S (f : L5 → Int) : List L5 → Int
  | [] => 0
  | x :: r => f x + S f r
theorem wr_id {x : Int} (h1 : -9223372036854775808 ≤ x) (h2 : x < 9223372036854775808) : wr x = x := wrap64 h1 h2
structure Stp (x : L5) (y : R7) : Prop where
  id : y.a = x.a
  ln : TP.lineB y = true
  may : mayF x y = true
  ok : okL (doneF x y).1
  a : (doneF x y).1.a = x.a
  b : (doneF x y).1.b = x.b - (doneF x y).2.p - (doneF x y).2.l
  c : (doneF x y).1.c = x.c + (doneF x y).2.l - (doneF x y).2.r
  p0 : 0 ≤ (doneF x y).2.p ∧ (doneF x y).2.p ≤ 300000
  l0 : 0 ≤ (doneF x y).2.l ∧ (doneF x y).2.l ≤ 300000
  r0 : 0 ≤ (doneF x y).2.r ∧ (doneF x y).2.r ≤ 300000
theorem stp1 {x : L5} {y : R7} (hx : okL x) (he : x.e = false) (hid : y.a = x.a) (b0 : 0 ≤ y.b) (c0 : 0 ≤ y.c) (bc : y.b + y.c ≤ x.b) (d0 : 0 ≤ y.d) (d1 : y.d ≤ 100001) (f0 : 0 ≤ y.f) (f1 : y.f ≤ 12)
    (hg : y.g = true → 0 ≤ y.e ∧ y.e ≤ x.b - y.b - y.c) (hn : y.g = false → y.e = 0) : Stp x y := by
  have hb0 := hx.b0
  have hb1 := hx.b1
  have hc := hx.nt he
  have w1 : wr (y.b + y.c) = y.b + y.c := wr_id (by omega) (by omega)
  have w2 : wr (x.b - (y.b + y.c)) = x.b - (y.b + y.c) := wr_id (by omega) (by omega)
  have w3 : wr (x.b - y.b) = x.b - y.b := wr_id (by omega) (by omega)
  have w4 : wr (x.b - y.b - y.c) = x.b - y.b - y.c := wr_id (by omega) (by omega)
  have w5 : wr (x.c + (x.b - y.b - y.c)) = x.b - y.b - y.c := by rw [wr_id (by omega) (by omega)]; omega
  cases hyg : y.g with
  | true =>
    obtain ⟨g0, g1⟩ := hg hyg
    have w6 : wr (x.c + (x.b - (y.b + y.c))) = x.b - (y.b + y.c) := by rw [wr_id (by omega) (by omega)]; omega
    have w7 : wr (x.b - (y.b + y.c) - y.e) = x.b - (y.b + y.c) - y.e := wr_id (by omega) (by omega)
    have hd : doneF x y = (⟨x.a, 0, x.b - (y.b + y.c) - y.e, 0, true⟩, ⟨y.b + y.c, y.d, x.b - (y.b + y.c), y.e⟩) := by
      unfold doneF; rw [if_pos hyg, w1, w2, w6, w7]
    refine ⟨hid, TP.lineB_iff.2 ⟨by omega, by omega, by omega, by omega, f0, f1⟩, ?_, ?_, by rw [hd], ?_, ?_, ?_, ?_, ?_⟩
    · unfold mayF
      rw [if_neg (by simp [he]), w3, w4, w5, if_neg (by omega)]
      simp [hyg]; left; omega
    · rw [hd]; exact ⟨by simp, by simp, by show 0 ≤ x.b - (y.b + y.c) - y.e; omega, by show x.b - (y.b + y.c) - y.e ≤ 100000; omega, fun _ => rfl, fun q => by cases q⟩
    · rw [hd]; show (0 : Int) = x.b - (y.b + y.c) - (x.b - (y.b + y.c)); omega
    · rw [hd]; show x.b - (y.b + y.c) - y.e = x.c + (x.b - (y.b + y.c)) - y.e; omega
    · rw [hd]; show 0 ≤ y.b + y.c ∧ y.b + y.c ≤ 300000; omega
    · rw [hd]; show 0 ≤ x.b - (y.b + y.c) ∧ x.b - (y.b + y.c) ≤ 300000; omega
    · rw [hd]; show 0 ≤ y.e ∧ y.e ≤ 300000; omega
  | false =>
    have g0 := hn hyg
    have w7 : wr (x.c - y.e) = 0 := by rw [wr_id (by omega) (by omega)]; omega
    have hd : doneF x y = (⟨x.a, x.b - (y.b + y.c), 0, if x.e || x.b - (y.b + y.c) == 0 then 0 else y.f, x.e⟩, ⟨y.b + y.c, y.d, 0, y.e⟩) := by
      unfold doneF; rw [if_neg (by simp [hyg]), w1, w2, w7]
    refine ⟨hid, TP.lineB_iff.2 ⟨by omega, by omega, by omega, by omega, f0, f1⟩, ?_, ?_, by rw [hd], ?_, ?_, ?_, ?_, ?_⟩
    · unfold mayF
      rw [if_neg (by simp [he]), w3, w4, w5, if_neg (by omega)]
      simp [hyg, g0]
    · rw [hd]; exact ⟨by show 0 ≤ x.b - (y.b + y.c); omega, by show x.b - (y.b + y.c) ≤ 100000; omega, by simp, by simp, fun q => (by rw [he] at q; cases q), fun _ => rfl⟩
    · rw [hd]; show x.b - (y.b + y.c) = x.b - (y.b + y.c) - 0; omega
    · rw [hd]; show (0 : Int) = x.c + 0 - y.e; omega
    · rw [hd]; show 0 ≤ y.b + y.c ∧ y.b + y.c ≤ 300000; omega
    · rw [hd]; exact ⟨by simp, by simp⟩
    · rw [hd]; show 0 ≤ y.e ∧ y.e ≤ 300000; omega
theorem stp2 {x : L5} {e : Int} (hx : okL x) (he : x.e = true) (e0 : 0 ≤ e) (e1 : e ≤ x.c) : Stp x ⟨x.a, 0, 0, 0, e, 0, false⟩ := by
  have hb := hx.ov he
  have hc := hx.c1
  have hc0 := hx.c0
  have w0 : wr (0 + 0) = 0 := by decide
  have w1 : wr (x.b - 0) = 0 := by rw [hb]; decide
  have w2 : wr (x.c - e) = x.c - e := wr_id (by omega) (by omega)
  have hd : doneF x ⟨x.a, 0, 0, 0, e, 0, false⟩ = (⟨x.a, 0, x.c - e, 0, true⟩, ⟨0, 0, 0, e⟩) := by
    simp only [doneF, Bool.false_eq_true, if_false, w0, w1, w2, he, Bool.true_or, if_true]
  refine ⟨rfl, TP.lineB_iff.2 ⟨by simp, by simp, by simp, by show 0 ≤ e ∧ e ≤ _; omega, by simp, by simp⟩, ?_, ?_, by rw [hd], ?_, ?_, ?_, ?_, ?_⟩
  · simp [mayF, he, e1]
  · rw [hd]; exact ⟨by simp, by simp, by show 0 ≤ x.c - e; omega, by show x.c - e ≤ 100000; omega, fun _ => rfl, fun q => by cases q⟩
  · rw [hd]; show (0 : Int) = x.b - 0 - 0; omega
  · rw [hd]; show x.c - e = x.c + 0 - e; omega
  · rw [hd]; exact ⟨by simp, by simp⟩
  · rw [hd]; exact ⟨by simp, by simp⟩
  · rw [hd]; show 0 ≤ e ∧ e ≤ 300000; omega
theorem stp {k : TN} {i : Nat} {x : L5} (hx : okL x) : Stp x (yL k x.c i ⟨x.a, x.b⟩) := by
  have hb0 := hx.b0
  have hb1 := hx.b1
  have hc0 := hx.c0
  have hc1 := hx.c1
  obtain ⟨t4a, t4b⟩ := OF.tdiv_b (c := 4) hb0 (by decide)
  obtain ⟨t5a, t5b⟩ := OF.tdiv_b (c := 50) hb0 (by decide)
  by_cases hpos : x.b > 0
  · have he : x.e = false := by
      cases h : x.e with
      | true => have := hx.ov h; omega
      | false => rfl
    unfold yL
    rw [if_pos (by exact hpos)]
    obtain ⟨b, eb⟩ : ∃ b, b = wn (pk k.p i) 0 (Int.tdiv x.b 4) := ⟨_, rfl⟩
    have b_0 : 0 ≤ b := by rw [eb]; exact wn_lo (by omega)
    have b_1 : b ≤ x.b := by rw [eb]; exact Int.le_trans (wn_hi (by omega)) t4b
    have h1 := wn_lo (x := pk k.q i) (lo := 0) (hi := 2 * (x.b - b)) (by omega)
    have h2 := wn_lo (x := pk k.i i) (lo := 0) (hi := 1 + Int.tdiv x.b 50) (by omega)
    have h3 := wn_hi (x := pk k.i i) (lo := 0) (hi := 1 + Int.tdiv x.b 50) (by omega)
    have h4 := wn_lo (x := pk k.l i) (lo := 0) (hi := 24) (by omega)
    have h5 := wn_hi (x := pk k.l i) (lo := 0) (hi := 24) (by omega)
    simp only [← eb]
    obtain ⟨c, ec⟩ : ∃ c, c = if wn (pk k.q i) 0 (2 * (x.b - b)) > x.b - b then 0 else wn (pk k.q i) 0 (2 * (x.b - b)) := ⟨_, rfl⟩
    have c_0 : 0 ≤ c ∧ c ≤ x.b - b := by rw [ec]; split <;> omega
    rw [← ec]
    have h6 := wn_lo (x := pk k.r i) (lo := 0) (hi := x.b - b - c) (by omega)
    have h7 := wn_hi (x := pk k.r i) (lo := 0) (hi := x.b - b - c) (by omega)
    refine stp1 hx he rfl b_0 c_0.1 (by show b + c ≤ x.b; omega) h2 (by show wn (pk k.i i) 0 (1 + Int.tdiv x.b 50) ≤ (100001 : Int); omega) (by show 0 ≤ max 0 (wn (pk k.l i) 0 24 - 12); omega) (by show max 0 (wn (pk k.l i) 0 24 - 12) ≤ (12 : Int); omega) (fun q => ?_) (fun q => ?_)
    · have q : (andI .i64 (pk k.d i) 7 == 7) = true := q
      show 0 ≤ (if (andI .i64 (pk k.d i) 7 == 7) = true then _ else _) ∧ (if (andI .i64 (pk k.d i) 7 == 7) = true then _ else _) ≤ x.b - b - c
      rw [if_pos q]
      exact ⟨h6, h7⟩
    · have q : (andI .i64 (pk k.d i) 7 == 7) = false := q
      show (if (andI .i64 (pk k.d i) 7 == 7) = true then _ else _) = (0 : Int)
      rw [if_neg (by simp [q])]
  · have hb : x.b = 0 := by omega
    unfold yL
    rw [if_neg (by exact hpos)]
    have h6 : x.c > 0 → 0 ≤ wn (pk k.r i) 0 x.c ∧ wn (pk k.r i) 0 x.c ≤ x.c := fun h => ⟨wn_lo (by omega), wn_hi (by omega)⟩
    cases he : x.e with
    | true =>
      refine stp2 hx he ?_ ?_
      · split
        · exact (h6 (by assumption)).1
        · omega
      · split
        · exact (h6 (by assumption)).2
        · omega
    | false =>
      have hc := hx.nt he
      rw [if_neg (by omega)]
      exact stp1 hx he rfl (by simp) (by simp) (by show (0 : Int) + 0 ≤ x.b; omega) (by simp) (by simp) (by simp) (by simp) (fun q => by cases q) (fun _ => rfl)
/-! ### A tape's run -/
theorem atI_here {id : Int} {pre suf : List L5} {x : L5} (h : ∀ y ∈ pre, y.a ≠ id) (hx : x.a = id) : atI id (pre ++ x :: suf) = some pre.length := by
  induction pre with
  | nil => simp [atI, hx]
  | cons y r ih =>
    have h0 := h y (by simp)
    simp [atI, h0, ih fun z hz => h z (by simp [hz])]
structure Run (suf suf' : List L5) (t t' : A4) (ys : List R7) (m : Nat) : Prop where
  len : suf'.length = suf.length
  ok : ∀ x ∈ suf', okL x
  ids : suf'.map L5.a = suf.map L5.a
  b : S L5.b suf - S L5.b suf' = (t'.p + t'.l) - (t.p + t.l)
  c : S L5.c suf' = S L5.c suf + (t'.l - t.l) - (t'.r - t.r)
  p0 : 0 ≤ t'.p ∧ t'.p ≤ 300000 * (m : Int)
  l0 : 0 ≤ t'.l ∧ t'.l ≤ 300000 * (m : Int)
  r0 : 0 ≤ t'.r ∧ t'.r ≤ 300000 * (m : Int)
  same : ∀ (j : Nat) (x : L5), suf[j]? = some x → (∀ y ∈ ys, y.a ≠ x.a) → suf'[j]? = some x
theorem runOf {k : TN} {ls : List Int} : ∀ (suf pre : List L5) (t : A4), (∀ (i : Nat) (x : L5), (pre ++ suf)[i]? = some x → x.a = 2 * (i : Int) + 1) → (∀ x ∈ suf, okL x) → (∀ (j : Nat) (x : L5), suf[j]? = some x → ls[pre.length + j]? = some x.c) →
    pre.length + suf.length ≤ 1000 → (0 ≤ t.p ∧ t.p ≤ 300000 * (pre.length : Int)) → (0 ≤ t.l ∧ t.l ≤ 300000 * (pre.length : Int)) → (0 ≤ t.r ∧ t.r ≤ 300000 * (pre.length : Int)) →
    ∃ suf' t', runF (pre ++ suf) t (ofG k ls pre.length (nowOf suf)) = some (pre ++ suf', t') ∧ Run suf suf' t t' (ofG k ls pre.length (nowOf suf)) (pre.length + suf.length)
  | [], pre, t, _, _, _, _, hp, hl, hr => ⟨[], t, rfl, rfl, fun x h => (by cases h), rfl, by simp, by simp, by simpa using hp, by simpa using hl, by simpa using hr, fun j x h => by simp at h⟩
  | x :: r, pre, t, hid, hok, hls, hm, hp, hl, hr => by
    have hxa : x.a = 2 * (pre.length : Int) + 1 := hid pre.length x (by simp)
    have hz := hls 0 x rfl
    rw [Nat.add_zero] at hz
    have hx := hok x (by simp)
    have hlen : (pre ++ [x]).length = pre.length + 1 := by simp
    have hm' : pre.length + (r.length + 1) ≤ 1000 := by simpa using hm
    have hls' : ∀ (j : Nat) (x : L5), r[j]? = some x → ls[pre.length + 1 + j]? = some x.c := fun j y h => by
      have := hls (j + 1) y (by simpa using h)
      rw [show pre.length + 1 + j = pre.length + (j + 1) by omega]; exact this
    have hG : ofG k ls pre.length (nowOf (x :: r)) = (lineO k ls pre.length ⟨x.a, x.b⟩).toList ++ ofG k ls (pre.length + 1) (nowOf r) := rfl
    have go : ∀ (x' : L5) (t1 : A4), x'.a = x.a → (0 ≤ t1.p ∧ t1.p ≤ 300000 * (pre.length : Int) + 300000) → (0 ≤ t1.l ∧ t1.l ≤ 300000 * (pre.length : Int) + 300000) → (0 ≤ t1.r ∧ t1.r ≤ 300000 * (pre.length : Int) + 300000) →
        ∃ suf' t', runF (pre ++ x' :: r) t1 (ofG k ls (pre.length + 1) (nowOf r)) = some (pre ++ x' :: suf', t') ∧ Run r suf' t1 t' (ofG k ls (pre.length + 1) (nowOf r)) (pre.length + (r.length + 1)) := by
      intro x' t1 ha h1 h2 h3
      obtain ⟨suf', t', q1, q2⟩ := runOf (k := k) (ls := ls) r (pre ++ [x']) t1 (fun i y h => by
          simp only [List.append_assoc, List.singleton_append] at h
          by_cases hi : i = pre.length
          · subst hi
            simp at h; subst h
            rw [ha]; exact hxa
          · refine hid i y ?_
            by_cases hlt : i < pre.length
            · rw [List.getElem?_append_left hlt] at h ⊢; exact h
            · rw [List.getElem?_append_right (by omega)] at h ⊢
              obtain ⟨j, hj⟩ : ∃ j, i - pre.length = j + 1 := ⟨i - pre.length - 1, by omega⟩
              rw [hj] at h ⊢
              simpa using h) (fun y h => hok y (by simp [h])) (by
          intro j y h
          have := hls' j y h
          simpa [Nat.add_assoc] using this) (by simp; omega) (by simp; omega) (by simp; omega) (by simp; omega)
      have e1 : (pre ++ [x']).length = pre.length + 1 := by simp
      rw [e1] at q1 q2
      simp only [List.append_assoc, List.singleton_append] at q1
      rw [show pre.length + 1 + r.length = pre.length + (r.length + 1) by omega] at q2
      exact ⟨suf', t', q1, q2⟩
    cases hy : lineO k ls pre.length ⟨x.a, x.b⟩ with
    | none =>
      obtain ⟨suf', t', q1, q2⟩ := go x t rfl (by omega) (by omega) (by omega)
      rw [hG, hy]
      refine ⟨x :: suf', t', q1, by simp [q2.len], fun y h => ?_, by simp [q2.ids], ?_, ?_, by simpa using q2.p0, by simpa using q2.l0, by simpa using q2.r0, fun j y h hno => ?_⟩
      · rcases List.mem_cons.1 h with rfl | h
        · exact hx
        · exact q2.ok y h
      · have := q2.b; simp only [S]; omega
      · have := q2.c; simp only [S]; omega
      · cases j with
        | zero => simpa using h
        | succ j => simpa using q2.same j y (by simpa using h) (by simpa using hno)
    | some y =>
      have hyy : y = yL k x.c pre.length ⟨x.a, x.b⟩ := by
        unfold lineO at hy
        split at hy
        · cases hy
        · rw [hz] at hy; exact (Option.some.inj hy).symm
      have st : Stp x y := by rw [hyy]; exact stp hx
      obtain ⟨x', ex⟩ : ∃ x', x' = (doneF x y).1 := ⟨_, rfl⟩
      obtain ⟨u, eu⟩ : ∃ u, u = (doneF x y).2 := ⟨_, rfl⟩
      have hstep : stepF (pre ++ x :: r) t y = some (pre ++ x' :: r, addA t u) := by
        unfold stepF
        rw [st.id, atI_here (fun z hz1 => by
          obtain ⟨i, hi⟩ := List.mem_iff_getElem?.1 hz1
          have hlt := (List.getElem?_eq_some_iff.1 hi).1
          have := hid i z (by rw [List.getElem?_append_left hlt]; exact hi)
          rw [this, hxa]; omega) rfl]
        simp only [List.getElem?_append_right (Nat.le_refl _), Nat.sub_self, List.getElem?_cons_zero]
        rw [if_pos st.may, ← ex, ← eu]
        simp
      have hpu := st.p0
      have hlu := st.l0
      have hru := st.r0
      rw [← eu] at hpu hlu hru
      have a1 : (addA t u).p = t.p + u.p := wr_id (by omega) (by omega)
      have a2 : (addA t u).l = t.l + u.l := wr_id (by omega) (by omega)
      have a3 : (addA t u).r = t.r + u.r := wr_id (by omega) (by omega)
      obtain ⟨suf', t', q1, q2⟩ := go x' (addA t u) (by rw [ex]; exact st.a) (by rw [a1]; omega) (by rw [a2]; omega) (by rw [a3]; omega)
      have hb := st.b
      have hc := st.c
      rw [← ex, ← eu] at hb hc
      have q2b := q2.b
      have q2c := q2.c
      rw [a1, a2] at q2b
      rw [a2, a3] at q2c
      rw [hG, hy]
      refine ⟨x' :: suf', t', ?_, by simp [q2.len], fun z h => ?_, by simp [q2.ids, ex, st.a], ?_, ?_, by simpa using q2.p0, by simpa using q2.l0, by simpa using q2.r0, fun j z h hno => ?_⟩
      · show runF (pre ++ x :: r) t (y :: ofG k ls (pre.length + 1) (nowOf r)) = _
        unfold runF
        rw [hstep]
        exact q1
      · rcases List.mem_cons.1 h with rfl | h
        · rw [ex]; exact st.ok
        · exact q2.ok z h
      · simp only [S]; omega
      · simp only [S]; omega
      · cases j with
        | zero =>
          simp at h; subst h
          exact absurd st.id (hno y (by simp))
        | succ j => simpa using q2.same j z (by simpa using h) (fun w hw => hno w (by simp [hw]))
theorem rt_of {k : TN} {ls : List Int} : ∀ (suf : List L5) (i : Nat) (last : Int), (∀ (j : Nat) (x : L5), suf[j]? = some x → x.a = 2 * ((i + j : Nat) : Int) + 1) → (∀ x ∈ suf, okL x) → (∀ (j : Nat) (x : L5), suf[j]? = some x → ls[i + j]? = some x.c) → last ≤ 2 * (i : Int) → TP.rtF last (ofG k ls i (nowOf suf)) = true
  | [], _, _, _, _, _, _ => rfl
  | x :: r, i, last, hid, hok, hls, hlast => by
    have hxa := hid 0 x rfl
    have hz := hls 0 x rfl
    rw [Nat.add_zero] at hz hxa
    have hx := hok x (by simp)
    have rcr : ∀ last', last' ≤ 2 * ((i + 1 : Nat) : Int) → TP.rtF last' (ofG k ls (i + 1) (nowOf r)) = true := fun last' h => rt_of r (i + 1) last' (fun j y hj => by
        have := hid (j + 1) y (by simpa using hj)
        rw [show i + 1 + j = i + (j + 1) by omega]; exact this) (fun y h => hok y (by simp [h])) (fun j y hj => by
        have := hls (j + 1) y (by simpa using hj)
        rw [show i + 1 + j = i + (j + 1) by omega]; exact this) h
    show TP.rtF last ((lineO k ls i ⟨x.a, x.b⟩).toList ++ ofG k ls (i + 1) (nowOf r)) = true
    cases hy : lineO k ls i ⟨x.a, x.b⟩ with
    | none => exact rcr last (by omega)
    | some y =>
      have hyy : y = yL k x.c i ⟨x.a, x.b⟩ := by
        unfold lineO at hy
        split at hy
        · cases hy
        · rw [hz] at hy; exact (Option.some.inj hy).symm
      have st : Stp x y := by rw [hyy]; exact stp hx
      show TP.rtF last (y :: ofG k ls (i + 1) (nowOf r)) = true
      unfold TP.rtF
      rw [if_neg (by rw [st.id, hxa]; omega), st.ln, if_pos rfl]
      exact rcr y.a (by rw [st.id, hxa]; omega)
/-- A pool of loans by rising ids. -/
structure WF (l : List L5) : Prop where
  len : l.length ≤ 10
  ok : ∀ x ∈ l, okL x
  id : ∀ (i : Nat) (x : L5), l[i]? = some x → x.a = 2 * (i : Int) + 1
theorem keeps {k : TN} {l : List L5} (h : WF l) : ∃ l' t, applyF l (ofF k (lostOf l) (nowOf l)) = some (l', t) ∧ WF l' ∧ Run l l' a0 t (ofF k (lostOf l) (nowOf l)) l.length := by
  have hls : ∀ (j : Nat) (x : L5), l[j]? = some x → (lostOf l)[0 + j]? = some x.c := fun j x hj => by simp [lostOf, hj]
  have hlen := h.len
  obtain ⟨l', t, q1, q2⟩ := runOf (k := k) (ls := lostOf l) l [] a0 h.id h.ok hls (by simp; omega) (by simp [a0]) (by simp [a0]) (by simp [a0])
  simp only [List.nil_append, List.length_nil, Nat.zero_add] at q1 q2
  refine ⟨l', t, ?_, ⟨by rw [q2.len]; exact h.len, q2.ok, fun i x hi => ?_⟩, q2⟩
  · unfold applyF
    rw [if_pos]
    · exact q1
    · unfold TP.tapeB
      have hl := OF.ofG_len k (lostOf l) (nowOf l) 0
      have hl2 : (nowOf l).length = l.length := by simp [nowOf]
      rw [if_neg (by show ¬ 64 < (ofG k (lostOf l) 0 (nowOf l)).length; omega)]
      exact rt_of l 0 0 (fun j x hj => by rw [Nat.zero_add]; exact h.id j x hj) h.ok hls (by omega)
  · have hlt := (List.getElem?_eq_some_iff.1 hi).1
    obtain ⟨y, hy⟩ := getE (show i < l.length by rw [← q2.len]; exact hlt)
    have e1 := congrArg (fun m => m[i]?) q2.ids
    simp only [List.getElem?_map, hi, hy, Option.map_some, Option.some.injEq] at e1
    rw [e1]; exact h.id i y hy
/-! ### A line of no loan -/
theorem stepF_ids {l : List L5} {t : A4} {y : R7} {p : List L5 × A4} (h : stepF l t y = some p) : p.1.map L5.a = l.map L5.a := by
  unfold stepF at h
  split at h
  · cases h
  · rename_i i hi
    split at h
    · cases h
    · rename_i x hx
      split at h
      · cases h
        show (l.set i (doneF x y).1).map L5.a = _
        have : (doneF x y).1.a = x.a := by unfold doneF; split <;> rfl
        rw [List.map_set, this]
        apply List.ext_getElem?
        intro j
        by_cases hj : j = i
        · subst hj
          have hlt := (List.getElem?_eq_some_iff.1 hx).1
          rw [List.getElem?_set_self (by simpa using hlt), List.getElem?_map, hx]; rfl
        · rw [List.getElem?_set_ne (Ne.symm hj)]
      · cases h
theorem atI_none {id : Int} {l : List L5} (h : ∀ x ∈ l, x.a ≠ id) : atI id l = none := by
  induction l with
  | nil => rfl
  | cons y r ih => simp [atI, h y (by simp), ih fun z hz => h z (by simp [hz])]
theorem runF_no {y : R7} : ∀ {ys : List R7} {l : List L5} {t : A4}, (∀ x ∈ l, x.a ≠ y.a) → runF l t (ys ++ [y]) = none
  | [], l, t, h => by
    simp only [List.nil_append, runF, stepF, atI_none h]
  | z :: ys, l, t, h => by
    simp only [List.cons_append, runF]
    cases hs : stepF l t z with
    | none => rfl
    | some p =>
      refine runF_no fun x hx => ?_
      have h1 : x.a ∈ p.1.map L5.a := List.mem_map.2 ⟨x, hx, rfl⟩
      rw [stepF_ids hs] at h1
      obtain ⟨w, hw, e⟩ := List.mem_map.1 h1
      rw [← e]; exact h w hw
theorem beyond {l : List L5} (h : WF l) (ys : List R7) : applyF l (ys ++ [⟨1073741824, 0, 0, 0, 0, 0, false⟩]) = none := by
  unfold applyF
  split
  · refine runF_no fun x hx => ?_
    obtain ⟨i, hi⟩ := List.mem_iff_getElem?.1 hx
    have := h.id i x hi
    have hlt := (List.getElem?_eq_some_iff.1 hi).1
    have := h.len
    show x.a ≠ 1073741824
    omega
  · rfl
/-! ### Sums -/
theorem sumF_eq {f : L5 → Int} : ∀ (l : List L5) (n : Int), (∀ x ∈ l, 0 ≤ f x ∧ f x ≤ 100000) → 0 ≤ n → n + 100000 * (l.length : Int) ≤ 1000000000 → sumF f n l = n + S f l ∧ 0 ≤ S f l ∧ S f l ≤ 100000 * (l.length : Int)
  | [], n, _, _, _ => ⟨by simp [sumF, S], by simp [S], by simp [S]⟩
  | x :: r, n, h, h0, h1 => by
    have hx := h x (by simp)
    simp only [List.length_cons, Int.natCast_add] at h1 ⊢
    have hw : wr (n + f x) = n + f x := wr_id (by omega) (by omega)
    obtain ⟨q1, q2, q3⟩ := sumF_eq r (n + f x) (fun y hy => h y (by simp [hy])) (by omega) (by omega)
    refine ⟨?_, ?_, ?_⟩
    · simp only [sumF, S, hw, q1]; omega
    · simp only [S]; omega
    · simp only [S]; omega
theorem WF.sb {l : List L5} (h : WF l) : sumF L5.b 0 l = S L5.b l ∧ 0 ≤ S L5.b l ∧ S L5.b l ≤ 1000000 := by
  have := h.len
  obtain ⟨q1, q2, q3⟩ := sumF_eq l 0 (fun x hx => ⟨(h.ok x hx).b0, (h.ok x hx).b1⟩) (by omega) (by omega)
  exact ⟨by rw [q1]; omega, q2, by omega⟩
theorem WF.sc {l : List L5} (h : WF l) : sumF L5.c 0 l = S L5.c l ∧ 0 ≤ S L5.c l ∧ S L5.c l ≤ 1000000 := by
  have := h.len
  obtain ⟨q1, q2, q3⟩ := sumF_eq l 0 (fun x hx => ⟨(h.ok x hx).c0, (h.ok x hx).c1⟩) (by omega) (by omega)
  exact ⟨by rw [q1]; omega, q2, by omega⟩
end PO
end Go.Proofs.Ytgdojnamjkhknaa
