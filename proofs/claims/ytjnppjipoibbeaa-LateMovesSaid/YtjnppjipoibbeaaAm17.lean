/-
  A region that draws its order: blocks that are laid ahead of their turn.
-/
import Derived.Test.YtjnppjipoibbeaaAm16
namespace Go.Am
set_option linter.all false

variable {P : Program} {ι : Map} {h : Heap} {w w' : World} {t : Fr} {a : Act} {qt : List Nat}
variable {Γ : Env} {ops : Array Oper} {os : List IOp} {B : List Nat} {fr : Nat → Fr} {hp : Nat → Heap} {vl : Nat → Value}

/-! ### A new block, in whatever heap -/
theorem below0_of {n : Nat} {v : Value} (h : below0 0 v = true) : below0 n v = true := by
  unfold below0 at h ⊢
  split at h <;> first | rfl | (simp at h; done) | skip
theorem belowC_of {n : Nat} {v : Value} (h : belowC 0 v = true) : belowC n v = true := by
  cases v
  case func f a b =>
    simp only [belowC, Bool.and_eq_true] at h ⊢
    exact ⟨List.all_eq_true.2 fun x hx => below0_of (List.all_eq_true.1 h.1 x hx), List.all_eq_true.2 fun x hx => below0_of (List.all_eq_true.1 h.2 x hx)⟩
  all_goals (simp only [belowC] at h ⊢; exact below0_of h)
theorem all_of {n : Nat} {z : List Value} (h : z.all (belowC 0) = true) : z.all (belowC n) = true :=
  List.all_eq_true.2 fun x hx => belowC_of (List.all_eq_true.1 h x hx)
theorem fillA_all {p : Value → Bool} : ∀ (l : List (Nat × Nat × Value)) (z r : List Value), fillA z l = some r → z.all p = true → (∀ q ∈ l, noTup q.2.2 = true → q.2.2.cells.toList.all p = true) → r.all p = true
  | [], z, r, e, hz, _ => by cases e; exact hz
  | (o, n, v) :: l, z, r, e, hz, hl => by
    simp only [fillA] at e
    split at e
    · rename_i hc
      refine fillA_all l _ r e ?_ fun q hq => hl q (List.mem_cons_of_mem _ hq)
      have hv := hl (o, n, v) (by simp) hc.1
      rw [List.all_eq_true] at hz hv ⊢
      intro x hx
      unfold setR at hx
      simp only [List.mem_append] at hx
      rcases hx with hx | hx | hx
      · exact hz x (List.mem_of_mem_take hx)
      · exact hv x hx
      · exact hz x (List.mem_of_mem_drop hx)
    · cases e

/-- The value that names a new block. -/
inductive Names : Nat → Value → Nat → Value → Prop
  | ptr (n m : Nat) : Names n (.pointer (some ⟨n, 0, none⟩)) m (.pointer (some ⟨m, 0, none⟩))
  | sl (n m len cap : Nat) : Names n (.slice (some ⟨n, 0, none⟩) len cap) m (.slice (some ⟨m, 0, none⟩) len cap)

theorem alloc_any {Γ : Env} {k : IK} (hk : isAlloc k = true) (hz : zOk k = true) {v : Value} {h' : Heap} (e : opA Γ k t h = some (v, h')) :
    ∃ cells, h' = h ++ [some ⟨.fix, cells⟩] ∧ (∀ h2, ∃ v2, opA Γ k t h2 = some (v2, h2 ++ [some ⟨.fix, cells⟩]) ∧ Names h.length v h2.length v2) ∧
      ∀ n, (∀ x ∈ opnds k, noTup (ev t x) = true → (ev t x).cells.toList.all (belowC n) = true) → cells.all (belowC n) = true := by
  cases k <;> first | (cases hk; done) | skip
  case box x =>
    simp only [opA] at e
    split at e
    · rename_i hn
      cases e
      exact ⟨_, rfl, fun h2 => ⟨_, by simp only [opA, hn, if_true], .ptr _ _⟩, fun n hb => hb x (by simp [opnds]) hn⟩
    · cases e
  case alloc z =>
    simp only [opA] at e
    cases e
    exact ⟨_, rfl, fun h2 => ⟨_, rfl, .ptr _ _⟩, fun n _ => all_of hz⟩
  case mkrow z len ps =>
    simp only [opA] at e
    split at e
    · rename_i l hl
      cases e
      refine ⟨_, rfl, fun h2 => ⟨_, by simp only [opA, hl], .sl _ _ _ _⟩, fun n hb => fillA_all _ _ _ hl (all_of hz) fun q hq hn => ?_⟩
      obtain ⟨p, hp, rfl⟩ := List.mem_map.1 hq
      exact hb _ (by simp only [opnds]; exact List.mem_map.2 ⟨p, hp, rfl⟩) hn
    · cases e
  case mkslice esz eby z len cap =>
    simp only [opA] at e
    split at e
    · rename_i l c hl hc
      split at e
      · rename_i hcond
        cases e
        refine ⟨_, rfl, fun h2 => ⟨_, by simp only [opA, hl, hc]; rw [if_pos hcond], .sl _ _ _ _⟩, fun n _ => ?_⟩
        rw [List.all_eq_true]
        intro x hx
        obtain ⟨y, hy, hxy⟩ := List.mem_flatten.1 hx
        rw [List.mem_replicate] at hy
        rw [hy.2] at hxy
        exact List.all_eq_true.1 (all_of (n := n) hz) x hxy
      · cases e
    · cases e

theorem Names.vr {n m : Nat} {v v2 v' : Value} (hn : Names n v m v2) {ι1 ι' : Map} {l : Loc} (h1 : VR ι1 v2 v') (h2 : ι1 m = some l) (h3 : ι' n = some l) : VR ι' v v' := by
  cases hn with
  | ptr => cases h1 with
    | va h => cases h with
      | vc h => cases h with
        | v0 h => cases h with
          | ptr hl => rw [h2] at hl; cases hl; exact .v0 (.ptr h3)
  | sl => cases h1 with
    | va h => cases h with
      | vc h => cases h with
        | v0 h => cases h with
          | sl hl hc => rw [h2] at hl; cases hl; exact .v0 (.sl h3 hc)
          | sl0 hl => exact .v0 (.sl0 h3)

/-! ### Frames, but for some places -/
def mask (D : Nat → Bool) (l : List Value) : List Value := (List.range l.length).map fun d => if D d then undef else l.getD d undef
theorem mask_length {D : Nat → Bool} {l : List Value} : (mask D l).length = l.length := by simp [mask]
theorem mask_getD {D : Nat → Bool} {l : List Value} {d : Nat} : (mask D l).getD d undef = if D d then undef else l.getD d undef := by
  unfold mask
  by_cases hd : d < l.length
  · simp [List.getD, List.getElem?_map, List.getElem?_range hd]
  · have h1 : l.length ≤ d := by omega
    simp [List.getD, List.getElem?_eq_none (l := List.range l.length) (by simpa using h1), List.getElem?_eq_none h1]
theorem F2.of_getD {R : Value → Value → Prop} {x y : Value} : ∀ {l m : List Value}, l.length = m.length → (∀ d, R (l.getD d x) (m.getD d y)) → F2 R l m
  | [], [], _, _ => .nil
  | a :: l, b :: m, hl, hd => .cons (by simpa using hd 0) (F2.of_getD (by simpa using hl) fun d => by simpa using hd (d + 1))
  | [], _ :: _, hl, _ => by simp at hl
  | _ :: _, [], hl, _ => by simp at hl

structure FrX (ι : Map) (D : Nat → Bool) (t l : List Value) : Prop where
  len : t.length = l.length
  at_ : ∀ d, D d = false → VR ι (t.getD d undef) (l.getD d undef)
theorem FrX.masked {D : Nat → Bool} {t l : List Value} (hf : FrX ι D t l) : F2 (VR ι) (mask D t) (mask D l) := by
  refine F2.of_getD (x := undef) (y := undef) (by rw [mask_length, mask_length, hf.len]) fun d => ?_
  rw [mask_getD, mask_getD]
  cases hd : D d with
  | true => exact VR.undef ι
  | false => exact hf.at_ d hd
theorem FrX.mono {ι' : Map} {D : Nat → Bool} {t l : List Value} (hf : FrX ι D t l) (s : Sub ι ι') : FrX ι' D t l := ⟨hf.len, fun d hd => (hf.at_ d hd).mono s⟩
theorem put_length {t : Fr} {d : Option Nat} {v : Value} : (put t d v).length = t.length := by cases d <;> simp [put]
theorem put_at {t : Fr} {d : Nat} {v : Value} : (put t (some d) v).getD d undef = if d < t.length then v else undef := by
  simp only [put, List.getD, List.getElem?_set, if_true]
  split
  · rfl
  · rfl
theorem act_put {dst : Option Tmp} {v : Value} : (a.put dst v).tmps.toList = put a.tmps.toList dst v := by
  cases dst with
  | none => rfl
  | some d => simp only [put, Act.put, Array.toList_setIfInBounds]
theorem FrX.put {D : Nat → Bool} {t l : List Value} (hf : FrX ι D t l) {dst : Option Nat} {v v' : Value} (hv : VR ι v v') : FrX ι D (put t dst v) (put l dst v') := by
  refine ⟨by rw [put_length, put_length, hf.len], fun d hd => ?_⟩
  by_cases hq : dst = some d
  · subst hq
    rw [put_at, put_at, hf.len]
    split
    · exact hv
    · exact VR.undef ι
  · rw [put_getD hq, put_getD hq]
    exact hf.at_ d hd

end Go.Am
