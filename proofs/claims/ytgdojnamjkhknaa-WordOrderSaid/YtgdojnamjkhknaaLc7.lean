/-
  Calls, appends and new lists, said of items.
-/
import Derived.Test.YtgdojnamjkhknaaLc6
namespace Go.Am
set_option linter.all false
variable {P : Program}

theorem opA_call {T : Plain} {Γ : Env} {f : Nat} {args : List Value} {h : Heap} {r : Value × Heap} (ht : T.find f args = none) (e : Γ f args h = some r) : opA (Plain.env T Γ) (.call f (args.map .const)) [] h = some r := by
  have : (args.map Operand.const).map (ev []) = args := by
    rw [List.map_map]; exact List.map_id'' (fun _ => rfl) args
  simp only [opA, this, Plain.env, ht, e]
theorem denH_up {I : SH} (hI : I.all (It.bnd I.length) = true) (X : SH) : ∃ R, denH (I ++ X) = denH I ++ R := ⟨_, denH_app hI⟩
theorem RowsW.up {w : Nat} {I : SH} {v : Value} {rows : List (List Value)} (h : RowsW w (denH I) v rows) (hI : I.all (It.bnd I.length) = true) (X : SH) : RowsW w (denH (I ++ X)) v rows := by
  obtain ⟨R, e⟩ := denH_up hI X
  rw [e]
  exact h.app R
theorem fresh_rows {w : Nat} {h : Heap} {rows : List (List Value)} (hw : ∀ r ∈ rows, r.length = w) (hp : 0 < w) : RowsW w (h ++ freshX w rows) (freshV h rows) rows := by
  have := (fresh_ls (H := h) hw [] []).rows hp []
  simpa using this
theorem freshV_slc (h : Heap) (rows : List (List Value)) : ∃ a c, freshV h rows = .slice a rows.length c := by
  cases rows with
  | nil => exact ⟨none, 0, rfl⟩
  | cons r l => exact ⟨_, _, rfl⟩
/-- A new list, where it is said as a summary's result. -/
theorem fresh_use {w : Nat} {I : SH} {rows : List (List Value)} (hI : I.all (It.bnd I.length) = true) (hw : ∀ r ∈ rows, r.length = w) (hp : 0 < w) : ∃ a c X, (freshV (denH I) rows, denH I ++ freshX w rows) = (.slice a rows.length c, denH (I ++ [.seg X])) ∧ RowsW w (denH (I ++ [.seg X])) (.slice a rows.length c) rows := by
  obtain ⟨a, c, e⟩ := freshV_slc (denH I) rows
  refine ⟨a, c, freshX w rows, by rw [e, denH_snoc I hI], ?_⟩
  rw [denH_snoc I hI, ← e]
  exact fresh_rows hw hp
/-- An append of a list to an empty one that was just made. -/
theorem appNew {I : SH} (hI : I.all (It.bnd I.length) = true) {w eby : Nat} {x : Value} {rows : List (List Value)} (hx : RowsW w (denH I) x rows) (hw : ∀ r ∈ rows, r.length = w) (hp : 0 < w) (hb : rows.length * eby ≤ 1099511627776) (hc : rows.length ≤ 1099511627776) :
    ∃ (a : Addr) (c : Nat) (X : Heap), (∀ Γ, opA Γ (.append w eby (.const (denV (ofs (I ++ [.blk .fix []])) (.sl I.length 0 0 0))) (.const x)) [] (denH (I ++ [.blk .fix []])) = some (.slice (some a) rows.length c, denH (I ++ [.blk .fix [], .seg X]))) ∧
      LsS w (denH I) (some ⟨.fix, []⟩ :: X) (.slice (some a) rows.length c) rows := by
  have e1 : denH (I ++ [.blk .fix []]) = denH I ++ ([some ⟨.fix, []⟩] ++ []) := by rw [denH_app hI]; simp [denL, It.den]
  have e2 : denV (ofs (I ++ [.blk .fix []])) (.sl I.length 0 0 0) = .slice (some ⟨(denH I).length + 0, 0, none⟩) 0 0 := by
    simp only [denV, denA, den0, off_app _ _ _ (Nat.le_refl _), denH_len, Nat.add_zero]
  obtain ⟨v, X, h1, h2, h3⟩ := LsS.all (w := w) (eby := eby) (H := denH I) (J := [some ⟨.fix, []⟩]) (R := []) (l := .slice (some ⟨(denH I).length + 0, 0, none⟩) 0 0) (x := x) (new := rows) (.inr (.inl ⟨0, rfl, rfl, rfl⟩)) ((hx.app _).src) hw hp hb hc
  obtain ⟨a, n, c, rfl⟩ := h3 ⟨_, _, _, rfl⟩
  obtain ⟨_, _, hq⟩ := h2.slc
  cases hq
  refine ⟨a, c, X, fun Γ => ?_, by simpa using h2⟩
  rw [e1, e2, h1 Γ, denH_app hI]
  simp [denL, It.den]

/-- An append of another list. -/
theorem appMore {I : SH} (hI : I.all (It.bnd I.length) = true) {w eby : Nat} {l x : Value} {X1 : Heap} {rows new : List (List Value)} (hl : LsS w (denH I) (some ⟨.fix, []⟩ :: X1) l rows) (hx : RowsW w (denH I) x new) (hw : ∀ r ∈ new, r.length = w) (hp : 0 < w)
    (hb : (rows.length + new.length) * eby ≤ 1099511627776) (hc : rows.length + new.length ≤ 1099511627776) :
    ∃ (a : Option Addr) (c : Nat) (e1 : Option Blk) (X2 X3 : Heap), X2.length = X1.length ∧ (∀ Γ, opA Γ (.append w eby (.const l) (.const x)) [] (denH (I ++ [.blk .fix [], .seg X1])) = some (.slice a (rows.length + new.length) c, denH (I ++ [.raw e1, .seg X2, .seg X3]))) ∧
      LsS w (denH I) (e1 :: (X2 ++ X3)) (.slice a (rows.length + new.length) c) (rows ++ new) := by
  have e0 : denH (I ++ [.blk .fix [], .seg X1]) = denH I ++ ((some ⟨.fix, []⟩ :: X1) ++ []) := by rw [denH_app hI]; simp [denL, It.den]
  obtain ⟨v, J2, X, g0, g1, g2⟩ := hl.app (R := []) (x := x) (eby := eby) (new := new) ((hx.app _).src) hw hp hb hc
  obtain ⟨a, c, rfl⟩ := g2.slc
  rw [List.length_append] at g1 g2
  match J2, g0 with
  | e1 :: X2, g0 =>
    refine ⟨a, c, e1, X2, X, by simpa using g0, fun Γ => ?_, by simpa using g2⟩
    rw [e0, g1 Γ, denH_app hI]
    simp [denL, It.den]
theorem LsS.rowsI {I K : SH} (hI : I.all (It.bnd I.length) = true) {w : Nat} {J : Heap} {v : Value} {rows : List (List Value)} (h : LsS w (denH I) J v rows) (hp : 0 < w) (hK : denL (ofs (I ++ K)) K = J) : RowsW w (denH (I ++ K)) v rows := by
  rw [denH_app hI, hK]
  have := h.rows hp []
  simpa using this
/-- A list out of one row, written down. -/
theorem row_lit {I : SH} (hI : I.all (It.bnd I.length) = true) {w : Nat} (hp : 0 < w) {k n : Nat} {kd : Kind} {cs : List SV} {rows : List (List Value)} (e : I[k]? = some (.blk kd cs)) (hk : ∀ g, kd = .grown g → g = w) (hn : n = rows.length) (hw : ∀ r ∈ rows, r.length = w) (hc : cs.map (den0 (ofs I)) = rows.flatten) : RowsW w (denH I) (denV (ofs I) (.sl k 0 n n)) rows := by
  subst hn
  refine .inr ⟨ofs I k, 0, rows.length, ⟨kd, cs.map (den0 (ofs I))⟩, rfl, Nat.le_refl _, rd_item e, fun g q => ⟨hk g q, hp⟩, ?_, fun i r hr => ?_⟩
  · simp only [hc, flat_len hw]; omega
  · have := (LsS.rows (H := []) (J := [some ⟨.grown w, rows.flatten⟩]) (l := .slice (some ⟨0, 0, none⟩) rows.length rows.length) (rows := rows) hp (.inr (.inr ⟨0, by simp, fun q => by subst q; simp at hr, hw, rfl⟩)) [])
    rcases this with ⟨q, _⟩ | ⟨B, o, c, blk, q1, _, q2, _, _, q3⟩
    · cases q
    · simp only [Value.slice.injEq, Option.some.injEq, Addr.mk.injEq] at q1
      obtain ⟨⟨rfl, rfl, _⟩, _, rfl⟩ := q1
      simp [rd] at q2
      subst q2
      have := q3 i r hr
      simpa [hc] using this
end Go.Am
