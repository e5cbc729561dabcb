/-
  A law's arguments, opened one after the other.
-/
import Derived.Test.YtgdojnamjkhknaaLc3
import Derived.Carry
import Derived.WalkKit
namespace Go.Am
set_option linter.all false
open Go.ChangeShapes Go.WideShapes Go.ChangeAt Go.RowKit
variable {E : Type} {enc : TypeId × Value → E} {P : Program} {w : World}

theorem slOk {r : Reach} {base : Nat} {u : TypeId} {v : Value} (h : Cell.okWide P w r base u v) : SlOk w v := fun a n c e => by
  subst e
  unfold Cell.okWide at h
  split at h <;> first | (exfalso; simp_all; done) | skip
  all_goals first
    | (rename_i q; cases q; done)
    | skip
  unfold Cell.ok at h
  split at h <;> first | (exfalso; simp_all; done) | skip
  all_goals first
    | (rename_i q; cases q; done)
    | skip
  · rename_i a' len cap _ q
    cases q
    obtain ⟨_, _, _, h2, row, cells, h3, _⟩ := h
    refine ⟨h2, ?_⟩
    unfold World.shape? at h3
    split at h3
    · rename_i cc el f hh; exact ⟨_, _, _, hh⟩
    · cases h3

def ArgOk (H : Heap) (ag : Bool) (ks : List LT) (a : Value) : Prop := if ag then ∃ A, a = .agg ⟨A⟩ ∧ F2 (LT.ok H) ks A else F2 (LT.ok H) ks [a]
theorem ArgOk.app {H : Heap} {ag : Bool} {ks : List LT} {a : Value} (h : ArgOk H ag ks a) (X : Heap) : ArgOk (H ++ X) ag ks a := by
  unfold ArgOk at h ⊢
  split
  · rename_i q; rw [if_pos q] at h
    obtain ⟨A, rfl, f⟩ := h
    exact ⟨A, rfl, f.mono fun _ _ k => LT.ok_app k X⟩
  · rename_i q; rw [if_neg q] at h
    exact h.mono fun _ _ k => LT.ok_app k X
def OpA (w : World) (ag : Bool) (ks : List LT) (v : Value) : Prop :=
  ∀ (ι : Map) (H : Heap), HR ι H w → (∀ (B : Nat) (blk : Blk), H[B]? = some (some blk) → blk.kind = .ro) →
    ∃ (X : Heap) (ι' : Map) (a : Value), HR ι' (H ++ X) w ∧ (∀ (B : Nat) (blk : Blk), (H ++ X)[B]? = some (some blk) → blk.kind = .ro) ∧ Sub ι ι' ∧ VR ι' a v ∧ ArgOk (H ++ X) ag ks a
def isAg (P : Program) (t : TypeId) : Bool := match P.underlying t with
  | some (.struct _) | some (.array _ _) => true
  | _ => false
theorem v0_va {ι : Map} {A cs : List Value} (h : F2 (V0 ι) A cs) : VR ι (.agg ⟨A⟩) (.agg ⟨cs⟩) := .va (.agg (h.mono fun _ _ k => .v0 k))
theorem open_arg {n base : Nat} {t : TypeId} {ks : List LT} {v : Value} {d : DataW E} {p : List MemPlace} (hk : tops P n t = some ks) (hv : Value.okWide P w .any base t v) (h : DataW.Trod enc P w 0 (fun _ => true) true t v d p) : OpA w (isAg P t) ks v := by
  obtain ⟨fuel, h⟩ := h
  intro ι H hr ro
  unfold Value.okWide at hv
  have agg : ∀ (cs : Array Value), v = .agg cs → Row.okWide P w .any base t cs → isAg P t = true → ∃ (X : Heap) (ι' : Map) (a : Value), HR ι' (H ++ X) w ∧ (∀ (B : Nat) (blk : Blk), (H ++ X)[B]? = some (some blk) → blk.kind = .ro) ∧ Sub ι ι' ∧ VR ι' a v ∧ ArgOk (H ++ X) (isAg P t) ks a := fun cs e hrow hag => by
    subst e
    obtain ⟨ts, _, _, hrow⟩ := hrow
    obtain ⟨X, ι', A, h1, h2, h3, h4, h5⟩ := tops_ok n fuel t ks cs.toList _ hk (fun v hv => by
      obtain ⟨i, hi⟩ := List.mem_iff_getElem?.1 hv
      obtain ⟨u, _, hu⟩ := hrow i v (by simpa using hi)
      exact slOk hu) h ι H hr ro
    refine ⟨X, ι', .agg ⟨A⟩, h1, h2, h3, ?_, ?_⟩
    · have := v0_va h4
      exact this
    · rw [hag]; exact ⟨A, rfl, h5⟩
  split at hv
  · rename_i fs ht
    obtain ⟨cs, e, _, hrow⟩ := hv
    exact agg cs e hrow (by unfold isAg; rw [ht])
  · rename_i m e ht
    obtain ⟨cs, e, _, hrow⟩ := hv
    exact agg cs e hrow (by unfold isAg; rw [ht])
  · rename_i hn1 hn2
    have hag : isAg P t = false := by
      unfold isAg
      split
      · rename_i fs ht; exact absurd ht (hn1 fs)
      · rename_i m e ht; exact absurd ht (hn2 m e)
      · rfl
    have one : v.cells.toList = [v] := by
      cases v with
      | agg cs =>
        exfalso
        unfold Cell.okWide at hv
        split at hv <;> first | (simp_all; done) | skip
        all_goals first
          | (rename_i q; cases q; done)
          | skip
        unfold Cell.ok at hv
        split at hv <;> first | (simp_all; done) | skip
        all_goals first
          | (rename_i q; cases q; done)
          | (rename_i q _; cases q; done)
          | exact hv
      | _ => rfl
    rw [one] at h
    obtain ⟨X, ι', A, h1, h2, h3, h4, h5⟩ := tops_ok n fuel t ks [v] _ hk (fun u hu => by
      simp only [List.mem_cons, List.not_mem_nil, or_false] at hu
      subst hu
      exact slOk hv) h ι H hr ro
    cases h4 with
    | cons h4 hn =>
      cases hn
      refine ⟨X, ι', _, h1, h2, h3, .v0 h4, ?_⟩
      rw [hag]; exact h5
theorem open_argB {n base : Nat} {t : TypeId} {ks : List LT} {v : Value} {d : DataW E} {p : List MemPlace} {ag : Bool} (ha : isAg P t = ag) (hk : tops P n t = some ks) (hv : Value.okWide P w .any base t v) (h : DataW.Trod enc P w 0 (fun _ => true) true t v d p) : OpA w ag ks v := by
  subst ha; exact open_arg hk hv h
theorem open_args : ∀ (l : List (Bool × List LT)) (vs : List Value) (ι : Map) (H : Heap), HR ι H w → (∀ (B : Nat) (blk : Blk), H[B]? = some (some blk) → blk.kind = .ro) → F2 (fun p v => OpA w p.1 p.2 v) l vs →
    ∃ (X : Heap) (ι' : Map) (as : List Value), HR ι' (H ++ X) w ∧ (∀ (B : Nat) (blk : Blk), (H ++ X)[B]? = some (some blk) → blk.kind = .ro) ∧ Sub ι ι' ∧ F2 (VR ι') as vs ∧ F2 (fun p a => ArgOk (H ++ X) p.1 p.2 a) l as
  | _, _, ι, H, hr, ro, .nil => ⟨[], ι, [], by simpa using hr, by simpa using ro, Sub.refl ι, .nil, .nil⟩
  | _, _, ι, H, hr, ro, .cons h r => by
    obtain ⟨X, ι1, a, h1, r1, s1, v1, k1⟩ := h ι H hr ro
    obtain ⟨Y, ι2, as, h2, r2, s2, v2, k2⟩ := open_args _ _ ι1 (H ++ X) h1 r1 r
    rw [List.append_assoc] at h2 r2 k2
    refine ⟨X ++ Y, ι2, a :: as, h2, r2, s1.trans s2, .cons (v1.mono s2) v2, .cons ?_ k2⟩
    rw [← List.append_assoc]
    exact k1.app Y
/-- A law, from its arguments opened. -/
theorem law_of {f : FuncId} {l : List (Bool × List LT)} {vs : List Value} (s : ∀ H as, F2 (fun p a => ArgOk H p.1 p.2 a) l as → Sim P f as H fun v _ => v = .bool true) (h : F2 (fun p v => OpA w p.1 p.2 v) l vs) :
    Calls P f ⟨vs⟩ w fun e w' => e = .returned (.bool true) ∧ Below w.heap.size w w' := by
  obtain ⟨X, ι, as, h1, r1, _, v1, k1⟩ := open_args l vs _ [] (HR.nil w) (fun B blk e => by simp at e) h
  exact (s _ as k1).law v1 h1 r1
end Go.Am
