/-
  Whatever operation leaves the heap alone: what the language yields, the program yields.
-/
import Derived.Test.YtjnppjipoibbeaaAm5
namespace Go.Am
set_option linter.all false

variable {P : Program} {ι : Map} {h : Heap} {w : World} {t : Fr} {a : Act}

/-- How the values of a type are compared. -/
def eqFits (P : Program) (T : TypeId) : TypeDesc → EqC → Prop
  | .bool, .bool => True
  | .pointer e, .ptr => (szT P e).isSome
  | .slice _, .slc => True
  | .func _ _ _, .fn => True
  | .struct _, .cells g => P.eqGuardType P.depth T = false ∧ leaves P 8 T = some g
  | .array _ _, .cells g => P.eqGuardType P.depth T = false ∧ leaves P 8 T = some g
  | _, _ => False

theorem equal_of {T : TypeId} {u v : Value} {b : Bool} (h : ∀ d, (Op.equalIn (d + 1) T u v).run P w = .ok b w) : (Op.equal T u v).run P w = .ok b w := h 9999

theorem eqA_sim {op : BinOp} {neg : Bool} {T : TypeId} {d : TypeDesc} {c : EqC} {u v u' v' : Value} {b : Bool} (hop : eqNeg op = some neg) (hu : P.underlying T = some d)
    (hc : eqFits P T d c)
    (e : eqA c u v = some b) (x y : Operand) (h1 : VR ι u u') (h2 : VR ι v v') :
    (eqGuard op T x y u' v').run P w = .ok () w ∧ (Go.binOp op T u' v').run P w = .ok (.bool (if neg then !b else b)) w := by
  have ptrs : ∀ {p q : Option Addr} {u' v' : Value}, V0 ι (.pointer p) u' → V0 ι (.pointer q) v' → ∃ p' q', u' = .pointer p' ∧ v' = .pointer q' ∧ p'.isNone = p.isNone ∧ q'.isNone = q.isNone := by
    intro p q u' v' h1 h2
    cases h1 <;> cases h2 <;> exact ⟨_, _, rfl, rfl, rfl, rfl⟩
  have slcs : ∀ {p q : Option Addr} {n m n2 m2 : Nat} {u' v' : Value}, V0 ι (.slice p n m) u' → V0 ι (.slice q n2 m2) v' →
      ∃ p' q' a b c d, u' = .slice p' a b ∧ v' = .slice q' c d ∧ p'.isNone = p.isNone ∧ q'.isNone = q.isNone := by
    intro p q n m n2 m2 u' v' h1 h2
    cases h1 <;> cases h2 <;> exact ⟨_, _, _, _, _, _, rfl, rfl, rfl, rfl⟩
  unfold eqA at e
  split at e
  · -- bools
    cases e
    cases h1.bool_inv
    cases h2.bool_inv
    cases d <;> simp [eqFits] at hc
    exact ⟨run_eqGuard _ _ _ _ rfl, eqop_run hop rfl (equal_of fun d => by simp [Op.equalIn, run_und hu])⟩
  · -- nil against a pointer
    rename_i q
    cases e
    obtain ⟨p', q', rfl, rfl, g1, g2⟩ := ptrs (h1.v0_inv rfl) (h2.v0_inv rfl)
    cases p' <;> simp at g1
    cases d <;> simp [eqFits] at hc
    exact ⟨run_eqGuard _ _ _ _ rfl, eqop_run hop rfl (equal_of fun d => by simp [Op.equalIn, run_und hu, g2])⟩
  · rename_i p
    cases e
    obtain ⟨p', q', rfl, rfl, g1, g2⟩ := ptrs (h1.v0_inv rfl) (h2.v0_inv rfl)
    cases p' <;> simp at g1
    cases q' <;> simp at g2
    cases d <;> simp [eqFits] at hc
    exact ⟨run_eqGuard _ _ _ _ rfl, eqop_run hop rfl (equal_of fun d => by simp [Op.equalIn, run_und hu])⟩
  · cases e
    obtain ⟨p', q', _, _, _, _, rfl, rfl, g1, g2⟩ := slcs (h1.v0_inv rfl) (h2.v0_inv rfl)
    cases p' <;> simp at g1
    cases d <;> simp [eqFits] at hc
    exact ⟨run_eqGuard _ _ _ _ rfl, eqop_run hop rfl (equal_of fun d => by simp [Op.equalIn, run_und hu, g2])⟩
  · cases e
    obtain ⟨p', q', _, _, _, _, rfl, rfl, g1, g2⟩ := slcs (h1.v0_inv rfl) (h2.v0_inv rfl)
    cases p' <;> simp at g1
    cases q' <;> simp at g2
    cases d <;> simp [eqFits] at hc
    exact ⟨run_eqGuard _ _ _ _ rfl, eqop_run hop rfl (equal_of fun d => by simp [Op.equalIn, run_und hu])⟩
  · cases e
    have g1 := h1.v0_inv rfl
    have g2 := h2.v0_inv rfl
    cases g1
    cases g2
    cases d <;> simp [eqFits] at hc
    exact ⟨run_eqGuard _ _ _ _ rfl, eqop_run hop rfl (equal_of fun d => by simp [Op.equalIn, run_und hu])⟩
  · cases e
    have g1 := h1.v0_inv rfl
    cases g1
    cases h2 with
    | va h2 => cases h2 with
      | vc h2 => cases h2 with
        | v0 h2 => cases h2
        | fn f _ _ =>
          cases d <;> simp [eqFits] at hc
          exact ⟨run_eqGuard _ _ _ _ rfl, eqop_run hop rfl (equal_of fun d => by simp [Op.equalIn, run_und hu])⟩
  · cases e
    have g2 := h2.v0_inv rfl
    cases g2
    cases h1 with
    | va h1 => cases h1 with
      | vc h1 => cases h1 with
        | v0 h1 => cases h1
        | fn f _ _ =>
          cases d <;> simp [eqFits] at hc
          exact ⟨run_eqGuard _ _ _ _ rfl, eqop_run hop rfl (equal_of fun d => by simp [Op.equalIn, run_und hu])⟩
  · rename_i g xs ys
    obtain ⟨xs', rfl, f1⟩ := h1.agg_inv
    obtain ⟨ys', rfl, f2⟩ := h2.agg_inv
    obtain ⟨rfl, rfl⟩ := eqCells_same e f1 f2
    have key : P.eqGuardType P.depth T = false ∧ leaves P 8 T = some g ∧ (∀ cs, asVal P T cs = .agg ⟨cs⟩) := by
      cases d <;> simp [eqFits] at hc <;> exact ⟨hc.1, hc.2, fun cs => by simp [asVal, hu]⟩
    have := leaves_sim 8 10000 (by omega) T g key.2.1 xs.toList ys.toList b w e
    rw [key.2.2, key.2.2] at this
    exact ⟨run_eqGuard_agg w op T x y _ _ key.1, eqop_run hop rfl this⟩
  · cases e

/-! ### Slices of slices, strings, arrays -/
theorem bound_sim {u u' : Value} {y y' n : Nat} {c : BoundsCode} (e : boundA y u = some n) (hu : VR ι u u') (hy : y ≤ y') : n ≤ y ∧ (Instr.sliceBound u' y' c).run P w = .ok n w := by
  cases u <;> simp [boundA] at e
  obtain ⟨⟨h1, h2⟩, rfl⟩ := e
  cases hu.int_inv
  refine ⟨by omega, ?_⟩
  simp only [Instr.sliceBound, asIntOf, Sem.run_bind, Sem.run_pure, Result.andThen_ok]
  rw [if_pos (by omega)]
  rfl

theorem bounds_sim {lo hi lo' hi' : Option Value} {len cap cap' l e : Nat} (s : Bool) (he : hiB len cap hi = some e) (hl : loB e lo = some l)
    (h1 : ∀ v, hi = some v → ∃ v', hi' = some v' ∧ VR ι v v') (h1' : hi = none → hi' = none) (h2 : ∀ v, lo = some v → ∃ v', lo' = some v' ∧ VR ι v v') (h2' : lo = none → lo' = none) (hc : cap ≤ cap') :
    (Instr.sliceBounds s len cap' lo' hi' none).run P w = .ok (l, e, cap') w ∧ l ≤ e ∧ e ≤ cap := by
  unfold Instr.sliceBounds
  cases hi with
  | none =>
    rw [h1' rfl]
    simp only [hiB] at he
    split at he
    · rename_i hle
      cases he
      cases lo with
      | none => rw [h2' rfl]; cases hl; simp [hle]
      | some v =>
        obtain ⟨v', rfl, hv⟩ := h2 v rfl
        have := bound_sim (P := P) (w := w) (c := .sliceB) hl hv (Nat.le_refl _)
        simp [this, hle]
    · cases he
  | some u =>
    obtain ⟨u', rfl, hu⟩ := h1 u rfl
    have g := bound_sim (P := P) (w := w) (c := if s = true then .sliceAcap else .sliceAlen) he hu hc
    cases lo with
    | none => rw [h2' rfl]; cases hl; simp [g.2]; exact g.1
    | some v =>
      obtain ⟨v', rfl, hv⟩ := h2 v rfl
      have := bound_sim (P := P) (w := w) (c := .sliceB) hl hv (Nat.le_refl _)
      simp [this, g.2]; exact g.1

theorem bounds3_sim {lo lo' : Option Value} {u u' m m' : Value} {len cap cap' l e q : Nat} (s : Bool) (hm : boundA cap m = some q) (he : boundA q u = some e) (hl : loB e lo = some l)
    (h0 : VR ι m m') (h1 : VR ι u u') (h2 : ∀ v, lo = some v → ∃ v', lo' = some v' ∧ VR ι v v') (h2' : lo = none → lo' = none) (hc : cap ≤ cap') :
    (Instr.sliceBounds s len cap' lo' (some u') (some m')).run P w = .ok (l, e, q) w ∧ l ≤ e ∧ e ≤ q ∧ q ≤ cap := by
  unfold Instr.sliceBounds
  have g0 := bound_sim (P := P) (w := w) (c := if s = true then .slice3Acap else .slice3Alen) hm h0 hc
  have g1 := bound_sim (P := P) (w := w) (c := .slice3B) he h1 (Nat.le_refl _)
  cases lo with
  | none => rw [h2' rfl]; cases hl; simp [g0.2, g1.2]; exact ⟨g1.1, g0.1⟩
  | some v =>
    obtain ⟨v', rfl, hv⟩ := h2 v rfl
    have := bound_sim (P := P) (w := w) (c := .slice3C) hl hv (Nat.le_refl _)
    simp [this, g0.2, g1.2]; exact ⟨g1.1, g0.1⟩

/-- The room of a slice that stands for another one. -/
theorem isEnd_some {esz : Nat} {p : Addr} {cap : Nat} {q : Bool} (e : isEnd h esz p cap = some q) : ∃ b, rd h p.block = some b ∧
    ((∃ e, b.kind = .grown e ∧ e = esz ∧ 0 < esz ∧ q = (p.off + cap * esz == b.cells.length)) ∨ ((∀ e, b.kind ≠ .grown e) ∧ q = false)) := by
  unfold isEnd at e
  split at e
  · rename_i b hb
    refine ⟨b, hb, ?_⟩
    split at e
    · rename_i e0 hk
      split at e
      · rename_i hc; cases e; exact .inl ⟨e0, hk, hc.1, hc.2, rfl⟩
      · cases e
    · rename_i hk
      cases e
      exact .inr ⟨hk, rfl⟩
  · cases e

theorem add_some (b o n : Nat) : (⟨b, o, none⟩ : Addr).add n = ⟨b, o + n, none⟩ := add_plain b o n

theorem optv_sim {ι : Map} {t : Fr} {a : Act} (hF : F2 (VR ι) t a.tmps.toList) {x : Option Operand} (hx : x.all opdOK = true) :
    (∀ v, x.map (ev t) = some v → ∃ v', x.map a.eval = some v' ∧ VR ι v v') ∧ (x.map (ev t) = none → x.map a.eval = none) := by
  cases x with
  | none => simp
  | some x => refine ⟨fun v hv => ?_, fun h => by simp at h⟩; simp at hv; subst hv; exact ⟨_, rfl, ev_sim hF (by simpa using hx)⟩

end Go.Am
